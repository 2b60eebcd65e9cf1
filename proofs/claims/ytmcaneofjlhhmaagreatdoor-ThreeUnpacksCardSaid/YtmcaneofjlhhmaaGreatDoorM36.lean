/- Lemmas. -/
import Derived.Test.YtmcaneofjlhhmaaGreatDoorM33
import Derived.Test.YtmcaneofjlhhmaaGreatDoorM22
import Derived.Test.YtmcaneofjlhhmaaGreatDoorM16
set_option linter.all false
set_option maxHeartbeats 8000000
set_option maxRecDepth 100000
namespace Go.Proofs
open RowKit Fk Tryz
def JZ(x:U0):Nat->List aQ
 | 0=>[]
 | k+1=>JZ x k++(tM x k).1
abbrev Rx:Array Value:=#[.int .i64 0,.bool false,.int .i64 0,.int .i64 0,.int .i64 0,.int .i64 0]
def OH(k m b c1 c2:Nat)(a1 a2:Option Addr)(Q l2:U0)(w:World)
  (hb:w.heap[b]?=some (.cells #[N k,N k,.slice a1 (k*k) c1,N m,N k,.slice a2 (m*k) c2] 165 (0,0)))
  (hs1:ao w eB (.slice a1 (k*k) c1) Q) (hs2:ao w eB (.slice a2 (m*k) c2) l2) (hl1:Q.length=k*k) (hl2:l2.length=m*k) (R:1<=k) (hkm:k+m<=255) :
  Calls prog 286 #[.slice (some ⟨b,0,none⟩) 2 2] w λe w'=>∃u,e=.returned (.tuple #[.agg #[N (k+m),N k,u],.int .i64 0])/\Ow w' w.heap.size eB u (Q++l2)/\Fr w w':=by
 have cB:k*k<=255*255:=bo ω ω;have cC:m*k<=255*255:=bo ω ω;have M1:=ad (uJ k k a1 c1 ω ω);have M2:=ad (uJ m k a2 c2 ω ω);have bx:=ad hl1;have b0:=ad hl2;clear hl1 hl2;generalize m*k=mk,k*k=kk at *;have q0:=af hb 0 rfl;have q1:=af hb 1 rfl;have q2:=af hb 2 rfl;have q3:=af hb 3 rfl;have q4:=af hb 4 rfl;have q5:=af hb 5 rfl;obtain⟨h,cp⟩:∃q,q=k+m:=⟨_,rfl⟩;rw[<- cp];have cE:IntKind.i64.wrap ((k:Int)+m)=(h:Int):=by rw[show(k:Int)+m=(h:Int) by omega];exact dS _ ω
 have cF:¬(255:Int)<k:=ω
 have cL:¬(255:Int)<h:=ω
 have cN:k+m<=255:=hkm;clear hb cp hkm;go_in;go_wp2_with fail;have cq:((w.alloc (.cells #[.int .i64 0,.int .i64 0,.slice none 0 0] 165)).alloc (.cells #[.int .i64 0,.int .i64 0,.slice none 0 0] 165)).heap[w.heap.size]?=some (.cells #[.int .i64 0,.int .i64 0,.slice none 0 0] 165 (0,0)):=by rw[gn _ _ _ σ,aD _ _ _ rfl]
 have cr:((w.alloc (.cells #[.int .i64 0,.int .i64 0,.slice none 0 0] 165)).alloc (.cells #[.int .i64 0,.int .i64 0,.slice none 0 0] 165)).heap[w.heap.size+1]?=some (.cells #[.int .i64 0,.int .i64 0,.slice none 0 0] 165 (0,0)):=aD _ _ _ σ;have cs:Fr w ((w.alloc (.cells #[.int .i64 0,.int .i64 0,.slice none 0 0] 165)).alloc (.cells #[.int .i64 0,.int .i64 0,.slice none 0 0] 165)):=((Fr.refl w).alloc _).alloc _;have cv:((w.alloc (.cells #[.int .i64 0,.int .i64 0,.slice none 0 0] 165)).alloc (.cells #[.int .i64 0,.int .i64 0,.slice none 0 0] 165)).heap.size=w.heap.size+2:=σ
 generalize (w.alloc (.cells #[.int .i64 0,.int .i64 0,.slice none 0 0] 165)).alloc (.cells #[.int .i64 0,.int .i64 0,.slice none 0 0] 165)=w0 at *;generalize Y:w.heap.size=g at *;go_loopw [9] (λiv wr=>∃(i r c:Nat) (z:Value) (L:U0),iv=N i/\Hid ((i=0/\r=0/\c=0/\L=[])\/(i=1/\r=k/\c=k/\L=Q)\/(i=2/\r=h/\c=k/\L=Q++l2))/\wr.heap[g]?=some (.cells #[.int .i64 0,.int .i64 0,.slice none 0 0] 165 (0,0))/\wr.heap[g+1]?=some (.cells #[N r,N c,z] 165 (0,0))/\Ow wr (g+2) eB z L/\Fr w wr/\g+2<=wr.heap.size) (λiv _=>2-(intOf iv).toNat);·exact⟨0,0,0,_,[],rfl,.inl ⟨rfl,rfl,rfl,rfl⟩,cq,cr,Ow.nil,cs,ω⟩
 ·
  clear cq cr cs cv;obtain⟨i,r,c,z,L,rfl,HH,h0,h1,ak,F,hs⟩:=hrel;have p0:=F.cell q0;have p1:=F.cell q1;have p2:=F.cell q2;have p3:=F.cell q3;have p4:=F.cell q4;have p5:=F.cell q5;have al:∀q,z.ownBlock=some q->g+2<=q:=λq G=>(ak.lt q G).1;rcases HH.out with⟨rfl,rfl,rfl,rfl⟩ | ⟨rfl,hr,hc,hL⟩ | ⟨rfl,hr,hc,rfl⟩
  ·have I:(wr.alloc (.cells #[N k,N k,(.slice a1 kk c1)] 165)).heap[wr.heap.size]?=some (.cells #[N k,N k,(.slice a1 kk c1)] 165 (0,0)):=aD _ _ _ rfl;have J:Fr wr (wr.alloc (.cells #[N k,N k,(.slice a1 kk c1)] 165)):=(Fr.refl wr).alloc _;have a8:=J.heap h0;have ap:=J.heap h1;have a9:=ak.fr J;have bt:g+2<=(wr.alloc (.cells #[N k,N k,(.slice a1 kk c1)] 165)).heap.size:=(by simp;omega);go_upto_region 5 with fail;generalize wr.alloc (.cells #[N k,N k,(.slice a1 kk c1)] 165)=W at *;have aC:=F.trans J;generalize G:wr.heap.size=q at *;clear p0 p1 p2 p3 p4 p5 ak h0 h1 F J;have K:=af I 0 rfl;have M:=af I 1 rfl;have p:=af I 2 rfl;have Z:=af ap 1 rfl;have g1:=aB ap 1;go_upto_region 7 with fail;have o:=ay W ⟨g+1,1,none⟩ (N k);have aa:=aI ap 1 (N k);have O:=o.heap I (λe=>by have e:q=g+1:=e;omega);have ba:=o.heap a8 (λe=>by have e:g=g+1:=e;omega);have bb:=a9.chg o (λk R e=>by have e:k=g+1:=e;have:=al k R;omega);have bc:Fr w (W.setCell ⟨g+1,1,none⟩ (N k)):=ag.below aC o (by rw[Y];omega) (λi e=>by have e:i=g+1:=e;rw[Y];omega);have bG:g+2<=(W.setCell ⟨g+1,1,none⟩ (N k)).heap.size:=(by simp[World.setCell];omega);clear Z g1 K M p o I a8 ap a9 aC bt;generalize W.setCell ⟨g+1,1,none⟩ (N k)=V at *;have K:=af O 0 rfl;have M:=af O 1 rfl;have p:=af O 2 rfl;have f0:=af aa 0 rfl;have Z:=af aa 1 rfl;go_wp2_with fail;refine(M1.out _).mono ?_;rintro e U ⟨rfl,d⟩;have K:=d.cell K;have M:=d.cell M;have p:=d.cell p;have f0:=d.cell f0;have Z:=d.cell Z;have az:=d.heap aa;have bd:=d.heap O;have be:=d.heap ba;have bf:=bb.fr d;have bk:=bc.trans d;have bL:g+2<=U.heap.size:=(by have:=d.size;omega);have g0:=aB az 0;clear d aa O ba bb bc bG;go_upto_region 10 with fail;have o:=ay U ⟨g+1,0,none⟩ (N k);have a0:=aI az 0 (N k);have bl:=o.heap bd (λe=>by have e:q=g+1:=e;omega);have bm:=o.heap be (λe=>by have e:g=g+1:=e;omega);have a3:=bf.chg o (λk R e=>by have e:k=g+1:=e;have:=al k R;omega);have ab:Fr w (U.setCell ⟨g+1,0,none⟩ (N k)):=ag.below bk o (by rw[Y];omega) (λi e=>by have e:i=g+1:=e;rw[Y];omega);have bq:g+2<=(U.setCell ⟨g+1,0,none⟩ (N k)).heap.size:=(by simp[World.setCell];omega);clear K M p f0 Z g0 o bd be az bf bk bL;generalize U.setCell ⟨g+1,0,none⟩ (N k)=X at *;have p:=af bl 2 rfl;have f2:=af a0 2 rfl;go_wp2_with (at_builtin;refine fT eB rfl (.tmp 45) (.tmp 47) 22 rfl sJ (g+2) rfl a3 _ _ rfl (hs1.fr ab) ?c1 bq ?_);case c1=>first | (rw[bx.out];simp;omega) | (rw[bx.out,b0.out];omega)
   intro v' w4 D;have ac:=D.own;obtain⟨q9,a4⟩:∃q,q=Q:=⟨_,rfl⟩;rw[<- a4]at ac;have bT:=ad a4;clear a4;obtain⟨va,vc,ca⟩:=ac.shape';subst ca;have a5:=D.chg'.heap a0 (λe=>by have:=al _ e;omega);have cb:=D.chg'.heap bm (λe=>by have:=al _ e;omega);have bs:Fr w w4:=D.below a3 ab (by rw[Y];omega) ab.size;have c4:g+2<=w4.heap.size:=(by have:=D.size;omega);have e3:=af a5 2 rfl;have e4:=aB a5 2;have cc:∀q,(Value.slice va _ vc).ownBlock=some q->g+2<=q:=λq G=>(ac.lt q G).1;clear D a3 ab bq a0 bm bl p f2;go_wp2;go_roundw;·exact⟨1,_,k,_,_,γ,.inr (.inl ⟨rfl,rfl,rfl,bT.out⟩),by rw[kh _ _ _ _ σ];exact cb,aI a5 2 _,ac.chg (ay w4 ⟨g+1,2,none⟩ _) (λk R e=>by have e:k=g+1:=e;have:=cc k R;omega),ag.below bs (ay w4 ⟨g+1,2,none⟩ _) bs.size (λi e=>by have e:i=g+1:=e;rw[Y];omega),by simp[World.setCell];omega⟩
   ·simp[intOf]
  ·obtain rfl:k=c:=hc.symm;obtain rfl:k=r:=hr.symm;obtain rfl:Q=L:=hL.symm;have I:(wr.alloc (.cells #[N m,N k,(.slice a2 mk c2)] 165)).heap[wr.heap.size]?=some (.cells #[N m,N k,(.slice a2 mk c2)] 165 (0,0)):=aD _ _ _ rfl;have J:Fr wr (wr.alloc (.cells #[N m,N k,(.slice a2 mk c2)] 165)):=(Fr.refl wr).alloc _;have a8:=J.heap h0;have ap:=J.heap h1;have a9:=ak.fr J;have bt:g+2<=(wr.alloc (.cells #[N m,N k,(.slice a2 mk c2)] 165)).heap.size:=(by simp;omega);go_upto_region 5 with fail;generalize wr.alloc (.cells #[N m,N k,(.slice a2 mk c2)] 165)=W at *;have aC:=F.trans J;generalize G:wr.heap.size=q at *;clear p0 p1 p2 p3 p4 p5 ak h0 h1 F J;have K:=af I 0 rfl;have M:=af I 1 rfl;have p:=af I 2 rfl;go_upto_region 7 with fail;have aa:=ap;have O:=I;have ba:=a8;have bb:=a9;have bc:=aC;have bG:=bt;clear K M p I a8 ap a9 aC bt;generalize W=V at *;have K:=af O 0 rfl;have M:=af O 1 rfl;have p:=af O 2 rfl;have f0:=af aa 0 rfl;have Z:=af aa 1 rfl;go_wp2_with fail;refine(M2.out _).mono ?_;rintro e U ⟨rfl,d⟩;have K:=d.cell K;have M:=d.cell M;have p:=d.cell p;have f0:=d.cell f0;have Z:=d.cell Z;have az:=d.heap aa;have bd:=d.heap O;have be:=d.heap ba;have bf:=bb.fr d;have bk:=bc.trans d;have bL:g+2<=U.heap.size:=(by have:=d.size;omega);have g0:=aB az 0;clear d aa O ba bb bc bG;go_upto_region 10 with fail;have o:=ay U ⟨g+1,0,none⟩ (N h);have a0:=aI az 0 (N h);have bl:=o.heap bd (λe=>by have e:q=g+1:=e;omega);have bm:=o.heap be (λe=>by have e:g=g+1:=e;omega);have a3:=bf.chg o (λk R e=>by have e:k=g+1:=e;have:=al k R;omega);have ab:Fr w (U.setCell ⟨g+1,0,none⟩ (N h)):=ag.below bk o (by rw[Y];omega) (λi e=>by have e:i=g+1:=e;rw[Y];omega);have bq:g+2<=(U.setCell ⟨g+1,0,none⟩ (N h)).heap.size:=(by simp[World.setCell];omega);clear K M p f0 Z g0 o bd be az bf bk bL;generalize U.setCell ⟨g+1,0,none⟩ (N h)=X at *;have p:=af bl 2 rfl;have f2:=af a0 2 rfl;go_wp2_with (at_builtin;refine fT eB rfl (.tmp 45) (.tmp 47) 22 rfl sJ (g+2) rfl a3 _ _ rfl (hs2.fr ab) ?c1 bq ?_);case c1=>first | (rw[b0.out];simp;omega) | (rw[bx.out,b0.out];omega)
   intro v' w4 D;have ac:=D.own;obtain⟨q9,a4⟩:∃q,q=Q++l2:=⟨_,rfl⟩;rw[<- a4]at ac;have bT:=ad a4;clear a4;obtain⟨va,vc,ca⟩:=ac.shape';subst ca;have a5:=D.chg'.heap a0 (λe=>by have:=al _ e;omega);have cb:=D.chg'.heap bm (λe=>by have:=al _ e;omega);have bs:Fr w w4:=D.below a3 ab (by rw[Y];omega) ab.size;have c4:g+2<=w4.heap.size:=(by have:=D.size;omega);have e3:=af a5 2 rfl;have e4:=aB a5 2;have cc:∀q,(Value.slice va _ vc).ownBlock=some q->g+2<=q:=λq G=>(ac.lt q G).1;clear D a3 ab bq a0 bm bl p f2;go_wp2;go_roundw;·exact⟨2,_,k,_,_,γ,.inr (.inr ⟨rfl,rfl,rfl,bT.out⟩),by rw[kh _ _ _ _ σ];exact cb,aI a5 2 _,ac.chg (ay w4 ⟨g+1,2,none⟩ _) (λk R e=>by have e:k=g+1:=e;have:=cc k R;omega),ag.below bs (ay w4 ⟨g+1,2,none⟩ _) bs.size (λi e=>by have e:i=g+1:=e;rw[Y];omega),by simp[World.setCell];omega⟩
   ·simp[intOf]
  ·obtain rfl:k=c:=hc.symm;obtain rfl:h=r:=hr.symm;have cu:(prog.info? 165).map (·.size)=some 3:=(by kernel_rfl);have c7:(#[N h,N k,z]:Array Value).all (·.oneCell')=true:=(by obtain⟨va,vc,rfl⟩:=ak.shape';rw[dQ];rfl);have c8:Ow (wr.setRow g #[N h,N k,z]) (g+2) eB z (Q++l2):=ak.chg (bh wr g _) λq G=>(by have:=al q G;show ¬q=g;omega);have c9:Fr w (wr.setRow g #[N h,N k,z]):=ag.below F (bh wr g _) F.size (λq G=>by rw[G];omega);have z0:=fk wr g 0 _ #[N h,N k,z] _ _ h0;have z1:=fk wr g 1 _ #[N h,N k,z] _ _ h0;have z2:=fk wr g 2 _ #[N h,N k,z] _ _ h0;clear p0 p1 p2 p3 p4 p5 q0 q1 q2 q3 q4 q5 ak M1 M2 HH;generalize dd:Q++l2=LL at *;go_wp2_with (first | (refine dM rfl 165 (.tmp 4) rfl (g+1) rfl 165 #[N h,N k,z] (0,0) _ h1 uAF rfl cu ?_) | (refine bB rfl 165 (.tmp 2) (.tmp 51) rfl g #[N h,N k,z] rfl rfl 165 _ h0 cu rfl c7 ?_));exact aT (by simp[results,results286,go_sem, *]) rfl ⟨_,rfl,c8.rebase ω,c9⟩
def N9(k i:Nat)(d:bF k i 0=aW k (iQ k) (i*k+0)):∀j,j<=k->bF k i j=aW k (iQ k) (i*k+j):=by
 intro j
 induction j with
 | zero=>intro _;exact d
 | succ j e=>intro f;rw[y8,e ω,BC k (iQ k) i j ω]
def NA(k i:Nat):bF k i 0=aW k (iQ k) (i*k+0):=by
 induction i with
 | zero=>rw[yz];simp[aW]
 | succ i d=>rw[y9,N9 k i d k (au _),BE]
def Gn(k i j:Nat)(d:k+i<256)(e:j<256):kR k (k+i) j=iQ k i j:=by
 have f:(k+i) ^^^ j<2^8:=ix d e;unfold kR iQ ft kZ;rw[ae ω,mO _ f]
def zR(k m:Nat)(e:1<=k)(f:k+m<=255):eF k++bF k m 0=ee k m:=by
 rw[NA];unfold eF ee aW;rw[g8,bP k m k,List.range_add,gq,ny];congr 1;·refine lP λt d=>?_;have d:=im.1 d;have:=(pB (show 0<k by omega)).2 d;unfold ew kR;rw[an this]
 ·refine lP λt d=>?_;have d:=im.1 d;have h:=(pB (show 0<k by omega)).2 d;have o:=jB t (show 0<k by omega);simp only[Function.comp];rw[uT ω,Nat.mul_add_mod,Gn k _ _ ω ω]
def Gm(k m:Nat)(O:1<=k)(Z:k+m<=255)(w:World):Calls prog 242 #[N k,N m] w λe w'=>∃u,e=.returned (.agg #[N (k+m),N k,u])/\Ow w' w.heap.size eB u (ee k m)/\Fr w w':=by
 have HI:=ad (Q7 k O ω);have HC:=ad (Fz k m O Z);have az:Hid ((eF k).length=k*k):=eg _ _ _;have a0:Hid ((bF k m 0).length=m*k):=by show _=_;rw[qj];omega
 have HW:=ad (zR k m O Z);have Q:=ad (λb o c2 p a2 W hb R h2=>OH k m b o c2 p a2 (eF k) (bF k m 0) W hb R h2 az.out a0.out O Z);rw[HW.out]at Q;clear HW;obtain⟨z,a6⟩:∃q,q=k+m:=⟨_,rfl⟩;rw[<- a6]at Q ⊢;clear a6;generalize ee k m=l3,bF k m 0=l2,eF k=l1 at *;have a7:(w.alloc (.cells #[.int .i64 0,.int .i64 0,.slice none 0 0] 165)).heap[w.heap.size]?=some (.cells #[.int .i64 0,.int .i64 0,.slice none 0 0] 165 (0,0)):=aD _ _ _ rfl;have a8:Fr w (w.alloc (.cells #[.int .i64 0,.int .i64 0,.slice none 0 0] 165)):=(Fr.refl w).alloc _;have cb:(w.alloc (.cells #[.int .i64 0,.int .i64 0,.slice none 0 0] 165)).heap.size=w.heap.size+1:=σ
 go_in;go_upto_region 1 with fail;generalize w.alloc (.cells #[.int .i64 0,.int .i64 0,.slice none 0 0] 165)=w0 at *;generalize hg:w.heap.size=g at *;go_wp2_with fail;refine(HI.out _).mono ?_;rintro e I ⟨v1,rfl,aa,U⟩;obtain⟨p,o,a9⟩:=aa.shape';rw[az.out]at a9;subst a9;unfold oU;have R:=U.heap a7;have aC:=a8.trans U;have ci:=U.size;clear a7 a8 U HI;have hA:(I.alloc (.cells #[N k,N k,.slice p (k*k) o] 165)).heap[I.heap.size]?=some (.cells #[N k,N k,.slice p (k*k) o] 165 (0,0)):=aD _ _ _ rfl;have bb:Fr I (I.alloc (.cells #[N k,N k,.slice p (k*k) o] 165)):=(Fr.refl I).alloc _;go_upto_region 2 with fail;generalize I.alloc (.cells #[N k,N k,.slice p (k*k) o] 165)=w2 at *;generalize I.heap.size=q1 at *;go_wp2_with fail;refine(HC.out _).mono ?_;rintro e J ⟨v3,rfl,ac,ah⟩;obtain⟨D,F,bc⟩:=ac.shape';rw[a0.out]at bc;subst bc;unfold nU;have L:=bb.trans ah;have bd:=aC.trans L;have h3:=L.heap R;have V:=ah.heap hA;have bf:=aa.fr L;have ck:=L.size;clear ah bb hA R aC L aa HC;have X:(J.alloc (.cells #[N m,N k,.slice D (m*k) F] 165)).heap[J.heap.size]?=some (.cells #[N m,N k,.slice D (m*k) F] 165 (0,0)):=aD _ _ _ rfl;have G:Fr J (J.alloc (.cells #[N m,N k,.slice D (m*k) F] 165)):=(Fr.refl J).alloc _;go_upto_region 3 with fail;generalize J.alloc (.cells #[N m,N k,.slice D (m*k) F] 165)=w4 at *;generalize J.heap.size=q3 at *;have e0:w4.cell? ⟨q1,0,none⟩=some (N k):=by rw[aG (G.heap V)];rfl
 have e1:w4.cell? ⟨q1,1,none⟩=some (N k):=by rw[aG (G.heap V)];rfl
 have e2:w4.cell? ⟨q1,2,none⟩=some (.slice p (k*k) o):=by rw[aG (G.heap V)];rfl
 have f0:=af X 0 rfl;have f1:=af X 1 rfl;have f2:=af X 2 rfl;have M:Fr w4 (w4.alloc (.cells #[N k,N k,.slice p (k*k) o,N m,N k,.slice D (m*k) F] 165)):=(Fr.refl w4).alloc _;have bk:=ad (Q.out w4.heap.size o F p D _ (aD w4 (.cells #[N k,N k,.slice p (k*k) o,N m,N k,.slice D (m*k) F] 165) _ rfl) ((bf.fr G).fr M).see ((ac.fr G).fr M).see);have bl:=(bd.trans G).trans M;have h4:=M.heap (G.heap h3);go_wp2_with fail;refine bk.out.mono ?_;rintro e K ⟨u,rfl,aj,bm⟩;have b7:=bl.trans bm;have h5:=bm.heap h4;have bC:=(aX.1 h4).1;generalize (w4.alloc (.cells #[N k,N k,.slice p (k*k) o,N m,N k,.slice D (m*k) F] 165)).heap.size=b4 at aj bC;clear bk Q bl h4 M bd h3 V bf ac X G e0 e1 e2 f0 f1 f2;obtain⟨d,h,rfl⟩:=aj.shape';have ak:(prog.info? 165).map (·.size)=some 3:=by kernel_rfl
 have bL:(#[N z,N k,.slice d l3.length h]:Array Value).all (·.oneCell')=true:=by rw[dQ];rfl
 have hC:(K.alloc (.cells #[N z,N k,.slice d l3.length h] 165)).heap[K.heap.size]?=some (.cells #[N z,N k,.slice d l3.length h] 165 (0,0)):=aD _ _ _ rfl;have al:Fr K (K.alloc (.cells #[N z,N k,.slice d l3.length h] 165)):=(Fr.refl K).alloc _;go_upto_region 4 with fail;generalize K.alloc (.cells #[N z,N k,.slice d l3.length h] 165)=Y at *;generalize K.heap.size=q5 at *;have bq:=b7.trans al;have h6:=al.heap h5;have bt:=aj.fr al;have bS:Ow (Y.setRow g #[N z,N k,.slice d l3.length h]) b4 eB (.slice d l3.length h) l3:=bt.chg (bh Y g _) λq hq=>by have:=(bt.lt q hq).1;show ¬q=g;omega
 have bT:Fr w (Y.setRow g #[N z,N k,.slice d l3.length h]):=ag.below bq (bh Y g _) bq.size (λq hq=>by rw[hq];omega);go_wp2_with (first | (refine dM rfl 165 (.tmp 9) rfl q5 rfl 165 #[N z,N k,.slice d l3.length h] (0,0) _ hC uAF rfl ak ?_) | (refine bB rfl 165 (.tmp 4) (.tmp 29) rfl g #[N z,N k,.slice d l3.length h] rfl rfl 165 _ h6 ak rfl bL ?_));exact aT (py results242 _ _ g 165 #[N z,N k,.slice d l3.length h] (0,0) _ rfl (bY _ g _ #[N z,N k,.slice d l3.length h] _ _ h6) uAF rfl ak) rfl ⟨_,rfl,bS.rebase ω,bT⟩
def BO(M:U0)(C:Nat)(d:List Nat)(i:Nat)(h:i<d.length):cK M C (d.take (i+1))=cK M C (d.take i)++(M.take ((d[i]+1)*C)).drop (d[i]*C):=by
 rw[qK,cQ h];unfold cK;show((d.take i++[d[i]]).map _).flatten=_;rw[gq,qP,kL,qN,vf,List.flatten_nil,iJ]
def tI(M:U0)(R C:Nat)(f:M.length=R*C):∀d:List Nat,(∀r∈d,r<R)->(cK M C d).length=d.length*C:=by
 intro d
 induction d with
 | nil=>intro _;simp[cK]
 | cons a d m=>intro h;have e:cK M C (a::d)=(M.take ((a+1)*C)).drop (a*C)++cK M C d:=(by simp[cK]);have o:(a+1)*C<=R*C:=cY C (h a σ);rw[e,aM,m (λr p=>h r (by simp[p])),bn,aP,f,gF];rw[bP]at o ⊢;rw[bP d.length];omega
def Ql(R C:Nat)(M:U0)(d:List Nat)(mv rv:Value)(base:Nat)(w:World)(ho:Ow w base eB mv M)(Q:M.length=R*C)(Y:ao w eJ rv d)(ak:∀r∈d,r<R)(hC:1<=C)(al:C<=255)(b9:1<=R)(hR:R<=255)(cz:d.length<=255):Calls prog 241 #[.agg #[N R,N C,mv],rv] w λe w'=>∃u,e=.returned (.tuple #[.agg #[N d.length,N C,u],.int .i64 0])/\Ow w' w.heap.size eB u (cK M C d)/\Fr w w':=by
 have bC:1*1<=R*C:=bo b9 hC;have a2:M≠[]:=by intro e;subst e;simp at Q;omega
 obtain⟨D,z,a3,_⟩:=ho.atHead a2;rw[Q]at a3;subst a3;obtain⟨ra,c4,rfl,_,_,_⟩:=Y.shape;have HM:=ad (uJ R C (some ⟨D,0,none⟩) z hR al);have a5:=ad (λi=>tI M R C Q (d.take i) (λr Y=>ak r (kg Y)));have a6:=ad (λW (m:Fr w W) i U=>Bh R C i D (R*C) z base M W (ho.fr m) Q U hC al hR);have a7:Hid (∀W (m:Fr w W) i (U:i<R),ao W eB (.slice (some ⟨D,i*C,none⟩) C (z-i*C)) ((M.take ((i+1)*C)).drop (i*C))/\((M.take ((i+1)*C)).drop (i*C)).length=C):=λW m i U=>by have h1:(i+1)*C=i*C+C:=(by rw[bP,gl]);have h2:(i+1)*C<=R*C:=cY C U;have:=(tq (E:=eB) (t:=22) rfl sJ (ho.fr m) (i*C) ((i+1)*C) ω ω).2;rw[show(i+1)*C-i*C=C by omega]at this;exact⟨this,by rw[bn,aP];omega⟩
 have a8:=ad (BO M C d);have a9:Hid (cK M C (d.take d.length)=cK M C d):=by show _=_;rw[dN (au _)]
 have HZ:Hid (cK M C (d.take 0)=[]):=rfl;have bb:Hid (∀i (h:i<d.length),d[i]<R):=λi h=>ak _ (co h);clear a2 Q bC ak;generalize c7:R*C=I at *;have J:((w.alloc (.cells #[N R,N C,.slice (some ⟨D,0,none⟩) I z] 165)).alloc (.cells #[.int .i64 0,.int .i64 0,.slice none 0 0] 165)).heap[w.heap.size]?=some (.cells #[N R,N C,.slice (some ⟨D,0,none⟩) I z] 165 (0,0)):=by rw[gn _ _ _ σ,aD _ _ _ rfl]
 have Z:((w.alloc (.cells #[N R,N C,.slice (some ⟨D,0,none⟩) I z] 165)).alloc (.cells #[.int .i64 0,.int .i64 0,.slice none 0 0] 165)).heap[w.heap.size+1]?=some (.cells #[.int .i64 0,.int .i64 0,.slice none 0 0] 165 (0,0)):=aD _ _ _ σ;have bc:Fr w ((w.alloc (.cells #[N R,N C,.slice (some ⟨D,0,none⟩) I z] 165)).alloc (.cells #[.int .i64 0,.int .i64 0,.slice none 0 0] 165)):=((Fr.refl w).alloc _).alloc _;have bG:((w.alloc (.cells #[N R,N C,.slice (some ⟨D,0,none⟩) I z] 165)).alloc (.cells #[.int .i64 0,.int .i64 0,.slice none 0 0] 165)).heap.size=w.heap.size+2:=σ
 have c8:¬(255:Int)<d.length:=ω
 go_in;go_upto_region 1 with fail;generalize (w.alloc (.cells #[N R,N C,.slice (some ⟨D,0,none⟩) I z] 165)).alloc (.cells #[.int .i64 0,.int .i64 0,.slice none 0 0] 165)=w0 at *;generalize hg:w.heap.size=g at *;have k0:=af J 0 rfl;have k1:=af J 1 rfl;have k2:=af J 2 rfl;go_wp2_with fail;refine(HM.out _).mono ?_;rintro e F ⟨rfl,L⟩;have bT:=L.cell k1;have J:=L.heap J;have Z:=L.heap Z;have be:=bc.trans L;have cB:g+2<=F.heap.size:=by have:=L.size;omega
 clear k0 k1 k2 bc L HM bG;have hA:(F.alloc (.cells #[N d.length,N C,.slice none 0 0] 165)).heap[F.heap.size]?=some (.cells #[N d.length,N C,.slice none 0 0] 165 (0,0)):=aD _ _ _ rfl;have aa:Fr F (F.alloc (.cells #[N d.length,N C,.slice none 0 0] 165)):=(Fr.refl F).alloc _;have bk:=aa.heap J;have bl:=aa.heap Z;have bm:=be.trans aa;have bq:g+2<=(F.alloc (.cells #[N d.length,N C,.slice none 0 0] 165)).heap.size:=by simp;omega
 go_upto_region 4 with fail;clear J Z bT be aa;generalize F.alloc (.cells #[N d.length,N C,.slice none 0 0] 165)=w2 at *;generalize F.heap.size=q at *;go_wp2;go_loopw [25] (λiv wr=>∃(i:Nat) (o:Value),i<=d.length/\iv=N i/\wr.heap[g]?=some (.cells #[N R,N C,.slice (some ⟨D,0,none⟩) I z] 165 (0,0))/\wr.heap[g+1]?=some (.cells #[.int .i64 0,.int .i64 0,.slice none 0 0] 165 (0,0))/\wr.heap[q]?=some (.cells #[N d.length,N C,o] 165 (0,0))/\Ow wr (g+2) eB o (cK M C (d.take i))/\Fr w wr/\g+2<=wr.heap.size) (λiv _=>d.length-(intOf iv).toNat);·exact⟨0,_,ax _,rfl,bk,bl,hA,by rw[HZ.out];exact Ow.nil,bm,bq⟩
 ·
  clear bk bl hA bm bq;obtain⟨i,o,U,rfl,V,X,ab,G,m,hs⟩:=hrel;by_cases ap:i<d.length
  ·obtain⟨rb,cF,rc,cb,e1⟩:=(Y.fr m).cell1 (λn=>N n) rfl i ap;cases cb;have bs:=ad (a8.out i ap);have bt:=bb.out i ap;have bu:=a5.out i;have cc:=G.ne_cells ab δ;have ac:∀q,o.ownBlock=some q->g+2<=q:=λq K=>(G.lt q K).1;have bv:=ad (λW (m:Fr w W)=>a6.out W m d[i] bt);have bx:=ad (λW (m:Fr w W)=>a7.out W m d[i] bt);have cf:(cK M C (d.take i)).length+C<=255*255+255:=(by rw[bu,aP];have:min i d.length*C<=255*255:=bo ω al;omega);generalize d[i]=a at *;have cR:¬(a:Int)<0:=ω;have cT:(a:Int)<R:=ω;have da:¬(R:Int)<=a:=ω;have c0:=af V 0 rfl;have c1:=af V 1 rfl;have c2:=af V 2 rfl;have d2:=af ab 2 rfl;generalize a*C=aC,z-a*C=cq,(M.take ((a+1)*C)).drop (a*C)=ch at *;obtain⟨P2,av⟩:∃q,q=cK M C (d.take (i+1)):=⟨_,rfl⟩;rw[<- av]at bs;have ci:=ad av;clear av;generalize cK M C (d.take i)=P1 at *;have dc:=(bx.out wr m).2;have ck:Hid (P1.length+ch.length<=2147483648):=(by show _<=_;omega);have cl:=ad (bv.out wr.drew (Fr.drew m));clear bv cf bu;go_upto_region 9 with fail
   go_region_law (first
     | (refine mH eB rfl (.tmp 39) (.tmp 42) 22 rfl sJ (g + 2) rfl (G.drew.fr p) _ _ rfl ((bx.out _ ((Fr.drew m).trans p)).1) ck.out (ar hs p.size) ?_
        intro v' w4 O
        have ah := O.own
        rw[← bs.out] at ah
        obtain ⟨va, vc, cp⟩ := ah.shape'
        subst cp
        have b3 : Fr w w3 := (Fr.drew m).trans p
        have m0 := O.chg'.heap (p.heap (show wr.drew.heap[g]? = _ from V)) (λe => by have := ac g e; omega)
        have m1 := O.chg'.heap (p.heap (show wr.drew.heap[g + 1]? = _ from X)) (λe => by have := ac (g + 1) e; omega)
        have mq := O.chg'.heap (p.heap (show wr.drew.heap[q]? = _ from ab)) cc
        have b6 : Fr w w4 := O.below (G.drew.fr p) b3 (by rw[hg]; omega) b3.size
        have dd := O.size
        have dj := p.size
        have e3 := af mq 2 rfl
        have e4 : w4.frozen? ⟨q, 2, none⟩ = false := aB mq 2)
     | (go_simp; go_at_call 284; apply cl.z; rintro e w3 ⟨rfl, p⟩; have d2 := p.cell (show wr.drew.cell? ⟨q, 2, none⟩ = _ from d2); have c0 := p.cell (show wr.drew.cell? ⟨g, 0, none⟩ = _ from c0); have c1 := p.cell (show wr.drew.cell? ⟨g, 1, none⟩ = _ from c1); have c2 := p.cell (show wr.drew.cell? ⟨g, 2, none⟩ = _ from c2)))
   all_goals go_wp2_with fail
   all_goals go_roundw
   all_goals first
    | (simp[intOf];omega)
    | (refine ⟨i + 1, _, by omega, by go_num, ?_, ?_, aI mq 2 _, ?_, ?_, ?_⟩
       · rw[(ay w4 ⟨q, 2, none⟩ _).block g (aX.1 m0).1 (λe => by have e : g = q := e; omega)]; exact m0
       · rw[(ay w4 ⟨q, 2, none⟩ _).block (g + 1) (aX.1 m1).1 (λe => by have e : g + 1 = q := e; omega)]; exact m1
       · rw[← ci.out]
         exact ah.chg (ay w4 ⟨q, 2, none⟩ _) λk hk e => (ah.ne_cells mq δ) (by rw[hk, show k = q from e])
       · exact ag.below b6 (ay w4 ⟨q, 2, none⟩ _) b6.size (λi e => by have e : i = q := e; omega)
       · simp[World.setCell]; have : wr.drew.heap.size = wr.heap.size := rfl; omega)
  ·obtain rfl:d.length=i:=ω;rw[a9.out]at G;have ds:¬((d.length:Int)<d.length):=ω;have b7:(prog.info? 165).map (·.size)=some 3:=(by kernel_rfl);have ct:(#[N d.length,N C,o]:Array Value).all (·.oneCell')=true:=(by obtain⟨va,vc,rfl⟩:=G.shape';rw[dQ];rfl);have ac:∀q,o.ownBlock=some q->g+2<=q:=λq K=>(G.lt q K).1;have cu:Ow (wr.setRow (g+1) #[N d.length,N C,o]) (g+2) eB o (cK M C d):=G.chg (bh wr (g+1) _) λq K=>(by have:=ac q K;show ¬q=g+1;omega);have cv:Fr w (wr.setRow (g+1) #[N d.length,N C,o]):=ag.below m (bh wr (g+1) _) m.size (λq K=>by rw[K];omega);have z0:=fk wr (g+1) 0 _ #[N d.length,N C,o] _ _ X;have z1:=fk wr (g+1) 1 _ #[N d.length,N C,o] _ _ X;have z2:=fk wr (g+1) 2 _ #[N d.length,N C,o] _ _ X;clear a8 a9 HZ bb a6 a7 a5 V G;go_wp2_with (first | (refine dM rfl 165 (.tmp 6) rfl q rfl 165 #[N d.length,N C,o] (0,0) _ ab uAF rfl b7 ?_) | (refine bB rfl 165 (.tmp 4) (.tmp 46) rfl (g+1) #[N d.length,N C,o] rfl rfl 165 _ X b7 rfl ct ?_));exact aT (by simp[results,results241,go_sem, *]) rfl ⟨_,rfl,cu.rebase ω,cv⟩
def eO:aJ prog Bool:=⟨4,1,1,false,.bool false,λb=>[.bool b],by kernel_rfl,δ,δ,by simp[Value.cells],λ_=>rfl,by intro x u d;simp at d;subst d;rfl⟩
def iq(d:List Bool)(K n:Nat):List Nat:=((List.range n).filter λi=>d.getD i false).take K
def Dn(d:List Bool)(K i:Nat)(f:i<d.length)(h:d[i]=true)(m:(iq d K i).length<K):iq d K (i+1)=iq d K i++[i]:=by
 unfold iq at *;rw[jD,vh];generalize (List.range i).filter (λi=>d.getD i false)=F at *;rw[aP]at m;have e:[i].filter (λi=>d.getD i false)=[i]:=by rw[vg,ce d i false f,h];rfl
 rw[e,List.take_append,dN ω,dN (by simp;omega)]
def Do(d:List Bool)(K i:Nat)(h:i<d.length)(f:d[i]=false\/¬(iq d K i).length<K):iq d K (i+1)=iq d K i:=by
 unfold iq at *;rw[jD,vh];generalize (List.range i).filter (λi=>d.getD i false)=F at *;rcases f with f | f;·have e:[i].filter (λi=>d.getD i false)=[]:=(by rw[vg,ce d i false h,f];rfl);rw[e,iJ]
 ·rw[aP]at f;rw[List.take_append,show K-F.length=0 by omega,oi,iJ]
def eG(d:List Nat)(e:List Hd):List Hd:=d.map λi=>e.getD i ⟨none,0,0⟩
def Dh(e:List Nat)(d:List Hd)(i:Nat)(h:i<d.length):eG (e++[i]) d=eG e d++[d[i]]:=by
 unfold eG;rw[gq,kL,qN,ce d i _ h]
def Dp(d:List Bool)(K n:Nat):(iq d K n).length<=n:=by
 unfold iq;rw[aP];have:=List.length_filter_le (λi=>d.getD i false) (List.range n);rw[ot]at this;omega
def yd(K:Nat)(pv gv:Value)(d:List Hd)(m:List Bool)(w:World)(hp:ao w aS pv d)(hg:ao w eO gv m)(am:m.length=d.length)(hn:d.length<=255):Calls prog 240 #[N K,pv,gv] w λe w'=>∃V vl,e=.returned (.tuple #[V,vl])/\Ow w' w.heap.size eJ V ((aN m).take K)/\Ow w' w.heap.size aS vl (eG ((aN m).take K) d)/\Fr w w':=by
 obtain⟨pa,bG,a5,_,_,_⟩:=hp.shape;obtain⟨ga,bR,a6,_,_,_⟩:=hg.shape;subst a5 a6;have az:=ad am;clear am;have HZ:Hid (iq m K 0=[]):=by show _=_;simp[iq]
 have a8:Hid (eG [] d=[]):=rfl;have HY:=ad (Dn m K);have aC:=ad (Do m K);have HS:=ad (λbb i h=>Dh bb d i h);have HE:Hid (iq m K d.length=(aN m).take K):=by show _=_;rw[<- az.out];rfl
 have bd:=ad (Dp m K);go_in;go_wp2;go_loopw [6,7,12] (λav lv W wr=>∃(i:Nat) (A:List Nat),i<=d.length/\W=N i/\Hid (A=iq m K i)/\Ow wr w.heap.size eJ av A/\Ow wr w.heap.size aS lv (eG A d)/\Fr w wr) (λ_ _ W _=>d.length-(intOf W).toNat);·exact⟨0,[],ax _,rfl,HZ.out.symm,Ow.nil,by rw[a8.out];exact Ow.nil,Fr.refl w⟩
 ·
  obtain⟨i,A,hi,rfl,z,o,G,D⟩:=hrel;by_cases a0:i<d.length
  ·have X:i<m.length:=(by have:=az.out;omega);obtain⟨b1,ca,cb,bk,e1⟩:=(hp.fr D).cell1 (λ(h:Hd)=>h.v) rfl i a0;obtain⟨b2,ch,ci,bl,e2⟩:=(hg.fr D).cell1 (λb=>Value.bool b) rfl i X;have a1:=ad (HS.out A i a0);have J:=ad (HY.out i X);have L:=ad (aC.out i X);have cj:A.length<=255:=(by rw[z.out];have:=bd.out i;omega);cases bk;cases bl;generalize d[i]=h at *;obtain⟨I,a2⟩:∃q,q=m[i]:=⟨_,rfl⟩;rw[<- a2]at J L e2;clear a2;obtain⟨aa,ac,rfl⟩:=o.shape';obtain⟨la,lc,M⟩:=G.shape';have a3:(eG A d).length=A.length:=(by simp[eG]);rw[a3]at M;subst M;have i1:(0:Int)<=i:=ω;have i2:(i:Int)<d.length:=ω;have i3:(i:Int)<m.length:=ω;by_cases Y:I=true/\A.length<K
   ·obtain⟨rfl,bv⟩:=Y;have cn:(A.length:Int)<K:=ω;have F:=J.out rfl (by rw[<- z.out];exact bv);rw[<- z.out]at F;obtain⟨A2,Z⟩:∃q,q=A++[i]:=⟨_,rfl⟩;rw[<- Z]at F a1;have O:=ad F;have bx:=ad Z;clear F J L Z;go_wp2_with (at_builtin;refine bA eJ rfl (.tmp 27) (.tmp 29) 40 rfl uAC w.heap.size rfl o [i] _ _ _ rfl rfl rfl ?c1 D.size ?_);case c1=>simp;omega
    intro v' w4 p;have Q:=p.own;rw[<- bx.out]at Q;have R:=bX G o p δ;have ab:Fr w w4:=p.below o D (au _) D.size;obtain⟨V,vc,b0⟩:=Q.shape';subst b0;clear p o G;go_wp2_with (at_builtin;refine bA aS rfl (.tmp 31) (.tmp 33) 42 rfl uAE w.heap.size rfl R [h] _ _ _ rfl rfl rfl ?c1 ab.size ?_);case c1=>rw[a3];simp;omega
    intro v5 w5 p;have a4:=p.own;have b4:=bX Q R p δ;have b5:Fr w w5:=p.below R ab (au _) ab.size;rw[<- a1.out]at a4;clear p Q R;go_wp2;go_roundw;·exact⟨i+1,_,ω,γ,O.out.symm,b4,a4,b5⟩
    ·exact μ
   ·have ah:I=false\/¬A.length<K:=by
      cases I;·exact .inl rfl
      ·exact .inr λh=>Y ⟨rfl,h⟩
    have F:=L.out (by rw[<- z.out];exact ah);rw[<- z.out]at F;have O:=ad F;clear F J L Y;by_cases U:I=false
    ·subst U;go_wp2;go_roundw;·exact⟨i+1,_,ω,γ,O.out.symm,o,G,D⟩
     ·exact μ
    ·have hK:¬(A.length:Int)<K:=(by rcases ah with h | h;exact absurd h U;omega);have b6:I=true:=(by cases I;exact absurd rfl U;rfl);subst b6;clear ah U;go_wp2;go_roundw;·exact⟨i+1,_,ω,γ,O.out.symm,o,G,D⟩
     ·exact μ
  ·obtain rfl:d.length=i:=ω;rw[HE.out]at z;have ct:¬((d.length:Int)<d.length):=ω;obtain⟨aa,ac,b7⟩:=o.shape';obtain⟨la,lc,M⟩:=G.shape';subst b7 M;go_wp2;go_ret2;exact⟨_,_,rfl,by rw[<- z.out];exact o,by rw[<- z.out];exact G,D⟩
def oW(d:List Bool):∀r∈aN d,r<d.length/\d.getD r false=true:=λr h=>⟨im.1 (nu.1 h).1,(nu.1 h).2⟩
def xY(d:List Bool):(aN d).length<=d.length:=by
 have:=List.length_filter_le (λi=>d.getD i false) (List.range d.length);rw[ot]at this;exact this
def Dm(d:List Bool)(k:Nat):qw ((aN d).take k) d.length:=by
 have f:((aN d).take k).Pairwise (·<·):=(List.pairwise_lt_range.filter _).take;refine⟨λr s m e=>?_,λr h=>(oW d r (kg h)).1⟩;rw[ce _ _ _ ω,ce _ _ _ e];exact List.pairwise_iff_getElem.1 f r s ω e m
def pf(d:List Nat)(ps:List U0):(dL d ps).length=d.length:=by simp[dL]
def pY(d:List Nat)(e:List Hd):(eG d e).length=d.length:=by simp[eG]
def nX(d:List Bool)(ps:List U0)(c:Nat)(e:List Nat)(h:∀r∈e,r∈aN d)(o:∀r (h:r<ps.length),d.getD r false=true->ps[r].length=c)(q:d.length=ps.length):∀p∈dL e ps,p.length=c:=by
 intro p f;obtain⟨r,m,rfl⟩:=jE.1 f;obtain⟨z,A⟩:=oW d r (h r m);grind
def rA{w w':World}{q f:Value}{e:List Hd}{ps:List U0}{d:List Nat}(h:cV w aS eB q e ps)(z:ao w' aS f (eG d e))(A:Fr w w')(D:∀r∈d,r<e.length):cV w' aS eB f (eG d e) (dL d ps):=by
 refine⟨z,by rw[pf,pY],λi J m=>?_⟩;have F:i<d.length:=by rw[pf]at m;exact m
 have o:=D _ (co F);have p:d[i]<ps.length:=by have:=h.2.1;omega
 have G:(eG d e)[i]=e[d[i]]:=by simp only[eG,jm];rw[ce e _ _ o]
 have I:(dL d ps)[i]=ps[d[i]]:=by simp only[dL,jm];rw[ce ps _ _ p]
 rw[G,I];exact(h.2.2 _ o p).fr A
section
variable {P:Program} {α β:Type} {E:aJ P α} {w w':World} {base:Nat} {ps:List Hd} {ls:List (List α)}
theorem _root_.Go.Fk.cg.app{F:aJ P β}{b:Nat}{l d:List β}{v v':Value}(h:cg w base E ps ls)(e:Ow w b F v l)(f:dF b F d w v v' w')(m:F.e≠E.e):cg w' base E ps ls:=⟨h.1,λt o p=>bX (h.2 t o p) e f m⟩
theorem _root_.Go.Fk.cg.snoc{x:Hd}{l:List α}(h:cg w base E ps ls)(o:Ow w base E x.v l):cg w base E (ps++[x]) (ls++[l]):=by
 refine⟨by simp[h.1],λt f p=>?_⟩;by_cases d:t<ps.length;·have e:t<ls.length:=(by rw[<- h.1];exact d);simp only[iy d,iy e];exact h.2 t d e
 ·have m:t=ps.length:=(by simp at f;omega);subst m;simp only[kM (au _),eA];have q:=h.1;grind
end
def I1{w:World}{A D:Value}{f h:List Hd}{d m:List U0}(o:cV w aS eB A f d)(F:cV w aS eB D h m):∀i (p:i<(f++h).length) (q:i<(d++m).length),ao w eB (f++h)[i].v (d++m)[i]:=by
 intro i p q;have e:=o.2.1;by_cases z:i<f.length;·simp only[iy z,iy (show i<d.length by omega)];exact o.2.2 i z ω
 ·simp only[kM (show f.length<=i by omega),kM (show d.length<=i by omega),e];rw[aM]at p q;exact F.2.2 (i-d.length) ω ω
def KK(w:World)(d e:Hd)(f h:List Hd)(m:ao w aS d.v f)(o:ao w aS e.v h):cV (w.alloc (.cells #[d.v,e.v] 42)) yj aS (.slice (some ⟨w.heap.size,0,none⟩) 2 2) [d,e] [f,h]:=
 ⟨lV yj w [d, e] _ _ 2 rfl rfl (by simp [maxLen]), rfl, fun i p q => by
   match i, p with
   | 0, _ => exact m.fr ((Fr.refl w).alloc _)
   | 1, _ => exact o.fr ((Fr.refl w).alloc _)⟩
def Qw(k m c:Nat)(A D:Value)(o:List Hd)(ps:List U0)(d:List Bool)(w:World)(X:1<=k)(Y:k+m<=255)(p:cV w aS eB A o ps)(F:ao w eO D d)(J:o.length=k+m)(K:d.length=k+m)
  (hc:∀r (h:r<ps.length),d.getD r false=true->ps[r].length=c) (hno:(aN d).length<k) :
  Calls prog 180 #[N k,N m,A,D] w λe w'=>e=.returned (.tuple #[.slice none 0 0,.int .i64 12])/\Fr w w':=by
 have Z:=p.2.1;have aa:=xY d;have L:(aN d).take (k+m)=aN d:=dN ω;have HM:=ad (vZ k m X Y);have I:=ad (λW (h:Fr w W)=>yd (k+m) A D o d W (p.1.fr h) (F.fr h) ω ω);rw[L]at I;have HA:=ad (λW M (O:ao W aS M (eG (aN d) o)) (q:Fr w W)=>yS M (eG (aN d) o) c W O (sp (rA p O q (λr hr=>by have:=(oW d r hr).1;omega)) (nX d ps c _ (λr h=>h) hc ω)));have HL:=ad (pY (aN d) o);obtain⟨pa,am,Q,_,_,_⟩:=p.1.shape;obtain⟨ga,av,R,_,_,_⟩:=F.shape;obtain⟨n,z⟩:∃n,n=k+m:=⟨_,rfl⟩;rw[J,<- z]at Q;rw[K,<- z]at R;rw[<- z]at I;subst Q R;have hw:IntKind.i64.wrap ((k:Int)+m)=(n:Int):=by rw[show(k:Int)+m=(n:Int) by omega];exact dS _ ω
 clear p F J K hc Z aa L z;generalize aN d=G at *;go_in;go_wp2_with fail;refine(HM.out _).mono ?_;rintro e w1 ⟨rfl,rfl⟩;go_wp2_with fail;refine(I.out _ (Fr.refl w)).mono ?_;rintro e w2 ⟨va,vl,rfl,a3,U,q⟩;obtain⟨la,lc,V⟩:=U.shape';rw[HL.out]at V;subst V;have ak:=ad (HA.out w2 _ U.see q);go_wp2_with fail;apply ak.z;rintro e w3 ⟨rfl,rfl⟩;go_wp2;go_ret2;exact⟨rfl,q⟩
def Qv(k m c:Nat)(pv gv:Value)(p:List Hd)(ps:List U0)(o:List Bool)(w:World)(hk:1<=k)(a0:k+m<=255)(i4:c<=4096)(M:cV w aS eB pv p ps)(hg:ao w eO gv o)(cm:p.length=k+m)(bf:o.length=k+m)
  (hc:∀r (h:r<ps.length),o.getD r false=true->ps[r].length=c) (hyes:k<=(aN o).length) :
  Calls prog 180 #[N k,N m,pv,gv] w λe w'=>∃v,e=.returned (.tuple #[v,.int .i64 0])/\∃xs,Ow w' w.heap.size aS v xs/\cg w' w.heap.size eB xs (iZ k m c ((aN o).take k) (dL ((aN o).take k) ps))/\Fr w w':=by
 have gb:=M.2.1;have gc:=xY o;have cn:(aN o).take (k+m)=aN o:=dN ω;have HM:=ad (vZ k m hk a0);have a2:=ad (λW (h:Fr w W)=>yd (k+m) pv gv p o W (M.1.fr h) (hg.fr h) ω ω);have cq:=ad (λW (h:Fr w W)=>yd k pv gv p o W (M.1.fr h) (hg.fr h) ω ω);rw[cn]at a2;have HA:=ad (λW lv (hl:ao W aS lv (eG (aN o) p)) (A:Fr w W)=>yS lv (eG (aN o) p) c W hl (sp (rA M hl A (λr V=>by have:=(oW o r V).1;omega)) (nX o ps c _ (λr h=>h) hc ω)));have HL:=ad (pY (aN o) p);have O:=Dm o k;rw[bf]at O;have J:((aN o).take k).length=k:=by rw[aP];omega
 have cs:=ad (λW lv (hl:ao W aS lv (eG ((aN o).take k) p)) (A:Fr w W)=>rA M hl A (λr V=>by have:=(oW o r (kg V)).1;omega));have ac:=nX o ps c ((aN o).take k) (λr h=>kg h) hc ω;have K:(dL ((aN o).take k) ps).length=k:=by rw[pf,J]
 obtain⟨pa,i6,ct,_,_,_⟩:=M.1.shape;obtain⟨ga,i8,cu,_,_,_⟩:=hg.shape;obtain⟨n,X⟩:∃n,n=k+m:=⟨_,rfl⟩;rw[cm,<- X]at ct;rw[bf,<- X]at cu;rw[<- X]at a2;have jn:k<=(aN o).length:=hyes;subst ct cu;have hw:IntKind.i64.wrap ((k:Int)+m)=(n:Int):=by rw[show(k:Int)+m=(n:Int) by omega];exact dS _ ω
 clear M hg cm bf hc gb gc cn;generalize aN o=G,(aN o).take k=d at *;generalize eG G p=HG,dL d ps=z at *;have gg:¬(G.length:Int)<k:=ω
 have gi:=ad (λhe=>MP k m c d z J K O ac he);have cv:=uk k m c d z K ac;have cz:=ym k m c d z;have gs:=tQ k m c d z K ac;have c0:=tP k m c d z;have a9:Hid (iZ k m c d z=ig k m c d z++js m (ig k m c d z) c):=rfl;have g0:=ad (λW Q p (F:cV W aS eB Q p (ig k m c d z))=>Fi m Q p (ig k m c d z) c W F ω ω cv ω);have HW:=ad (Gm k m hk a0);have bk:=ad (λW mv rv base (ho:Ow W base eB mv (ee k m)) (V:ao W eJ rv d)=>Ql (k+m) k (ee k m) d mv rv base W ho (eg _ _ _) V O.2 hk ω ω a0 ω);have c9:(cK (ee k m) k d).length=k*k:=by rw[tI (ee k m) (k+m) k (eg _ _ _) d O.2,J]
 have g2:=ad (λW v (p:ao W eB v (cK (ee k m) k d))=>Q6 k _ v W p c9 hk ω (BN k m a0 d J O));have HT:=ad (λW mv Q p (hM:ao W eB mv (jO (cK (ee k m) k d) k)) (F:cV W aS eB Q p z)=>Ae _ k mv Q p z c W hM F ω ω ω (by rw[K];exact eg _ _ _) ac ω);have cB:jo (jO (cK (ee k m) k d) k) z.length k z c=ig k m c d z:=by unfold ig;rw[K]
 rw[cB]at HT;rw[K]at HT;rw[J]at bk;rw[<- X]at bk HW;have cC:d.getD (k-1) 0=k-1->∀r,r<k->d.getD r 0=r:=by intro h r V;exact IF d _ O ω (by rw[J];exact h) r ω
 have cE:=ad cC;have cF:=ad J;have g4:=ad K;have g5:n<=1000000000:=ω
 have j0:n<=255:=ω
 rw[<- X]at c0;clear cB c9 O ac K J X cC;generalize ee k m=WL,cK (ee k m) k d=PK,jO (cK (ee k m) k d) k=IV,ig k m c d z=D,iZ k m c d z=L at *;generalize js m D c=PR at *;go_in;go_wp2_with fail;refine(HM.out _).mono ?_;rintro e w1 ⟨rfl,rfl⟩;go_wp2_with fail;refine(a2.out _ (Fr.refl w)).mono ?_;rintro e w2 ⟨va,vl,rfl,ha,bm,A⟩;obtain⟨la,lc,cL⟩:=bm.shape';rw[HL.out]at cL;subst cL;have cN:=ad (HA.out w2 _ bm.see A);clear ha bm a2 HM;go_wp2_with fail;apply cN.z;rintro e w3 ⟨rfl,rfl⟩;go_wp2_with fail;refine(cq.out _ A).mono ?_;rintro e w3 ⟨j7,hb,rfl,bq,cT,db⟩;have bs:=A.trans db;have bt:=cs.out w3 hb cT.see bs;obtain⟨ka,kb,dc⟩:=cT.shape';rw[bt.2.1,g4.out]at dc;obtain⟨kc,kd,dd⟩:=bq.shape';rw[cF.out]at dd;subst dc dd;have bu:k-1<d.length:=by rw[cF.out];omega
 obtain⟨b1,kk,kl,dj,e1⟩:=bq.see.cell1 (λn=>N n) rfl (k-1) bu;simp only[dt]at dj;obtain⟨rfl,bv,rfl⟩:=dj;clear bv;rw[<- ce d (k-1) 0 bu]at e1;have hh:=bq.see;obtain⟨R,dl⟩:∃q,q=k-1:=⟨_,rfl⟩;rw[<- dl]at e1 cE;have km:IntKind.i64.wrap ((k:Int)-1)=(R:Int):=by rw[show(k:Int)-1=(R:Int) by omega];exact dS _ ω
 have i1:(0:Int)<=R:=ω
 have i2:(R:Int)<k:=ω
 clear cq HA cN cs bu dl db A;generalize eG d p=HH,d.getD R 0=ak at *;go_upto_if 75 with fail;go_cut [14]from 15 to 92 (λQ wx=>∃F,cV wx aS eB Q F D/\Fr w wx)
 ·
  by_cases hq:ak=R;·subst hq;have ht:=gi.out (cE.out rfl);go_wp2;go_meet;exact⟨_,by rw[ht];exact bt,bs⟩
  ·have kn:¬(ak:Int)=R:=ω;go_wp2_with fail;refine(HW.out _).mono ?_;rintro e w4 ⟨u4,rfl,ai,aj⟩;have hv:=ad (bk.out w4 u4 _ _ ai (hh.fr aj));obtain⟨a4,c4,rfl⟩:=ai.shape';go_wp2_with fail;apply hv.z;rintro e I ⟨u5,rfl,dT,hx⟩;obtain⟨a5,c5,rfl⟩:=dT.shape';have eb:Fr I (I.alloc (.cells #[N k,N k,.slice a5 PK.length c5] 165)):=(Fr.refl I).alloc _;have h0:=ad (g2.out _ _ (dT.fr eb).see);have h4:=aj.trans hx;go_wp2_with fail;apply h0.z;rintro e w6 ⟨u6,rfl,Y,b0⟩;obtain⟨a6,c6,rfl⟩:=Y.shape';have ec:Fr w6 (w6.alloc (.cells #[N k,N k,.slice a6 IV.length c6] 165)):=(Fr.refl w6).alloc _;have ef:=((h4.trans eb).trans b0).trans ec;have h7:=ad (HT.out _ _ _ _ (Y.fr ec).see (bt.fr ef));go_wp2_with fail;apply h7.z;rintro e w8 ⟨u8,rfl,hB,hE,hG,Z⟩;go_wp2;go_meet;exact⟨hB,hG.sees2 hE.see,(bs.trans ef).trans Z⟩
 ·
  obtain⟨F,aC,hH⟩:=hcut;obtain⟨da,b3,ek,_,_,_⟩:=aC.1.shape;have em:F.length=k:=(by rw [aC.2.1,cz]);rw [em]at ek;subst ek;have eq:=ad em;have er:=ad cz;have ba:=ad c0;have hI:=ad (g0.out wc _ _ aC);go_wp2_with fail;apply hI.z;rintro e w4 ⟨v4,rfl,U,ai,hJ,aj⟩;have al:=hJ.sees2 ai.see;obtain⟨ma,b5,rfl⟩:=ai.shape';have es:=hH.trans aj;have bb:=aC.fr aj;go_upto_region 16 with(at_make;refine rm aS rfl (.const (.int .i64 0)) (.tmp 100) 42 rfl uAE .i64 .i64 _ n rfl rfl rfl g5 w4.heap.size (au _) ?_);intro I ev e0;have bc:Fr w4 I:=(lK e0).fr (fun k hk e=>by cases e);have e2:=I1 bb al;rw [<- a9.out]at e2;have e3:=bb.fr bc;have e4:=al.fr bc;have b6:Fr I (I.alloc (.cells #[.slice da k b3,.slice ma U.length b5] 42)):=(Fr.refl I).alloc _;have e5:=KK I ⟨da,k,b3⟩ ⟨ma,U.length,b5⟩ F U e3.1 e4.1;have e6:=al.2.1;have HC := ad (QG _ _ _ _ e5 (by
    have h1 := eq.out;have h2 := ba.out;have h3 := er.out;rw[a9.out, aM] at h2;simp
    omega))
  have hL:=ad e6;clear e6 e5;have eC:(F++U).length=L.length:=(by rw[a9.out,aM,aM,bb.2.1,al.2.1]);have b0:=bc.trans b6;have Y:=ev.fr b6;clear e3 e4 b6 ev bb al e0 bc;go_wp2_with fail;apply HC.z;rintro e w7 ⟨v7,rfl,am,bC⟩;simp only[vf,List.flatten_nil,iJ]at am;have eL:=E7 Y am (au _);have fa:=Y.fr bC;have fb:=b0.trans bC;generalize (I.alloc (.cells #[.slice da k b3,.slice ma U.length b5] 42)).heap.size=b7 at *;have bG:(F++U).length=n:=(by rw[eC];exact ba.out);have hS:=ad bG;clear eC;generalize F++U=AL at *;obtain⟨a7,c7,fc⟩:=am.shape';rw[bG]at fc;subst fc;clear bG HC Y bC hL eq er a9 cv;have HZ:Hid (L.take 0=[]):=rfl;have fe:=ad es.size;go_wp2;go_loopw [21,107] (λov iv wr=>∃(i:Nat) (xs:List Hd),i<=n/\iv=N i/\Ow wr w4.heap.size aS ov xs/\cg wr w.heap.size eB xs (L.take i)/\xs.length=i/\Fr w4 wr/\Ow wr b7 aS (.slice a7 n c7) AL/\((Value.slice a7 n c7).ownBlock=none\/(Value.slice a7 n c7).ownBlock≠ov.ownBlock)) (λ_ iv _=>n-(intOf iv).toNat);·exact⟨0,[],ax _,rfl,fa,⟨rfl,λt h=>by simp at h⟩,rfl,fb,am,eL⟩
  ·
   clear fa fb am eL;obtain⟨i,xs,hi,rfl,hO,ca,cb,A,hA,fn⟩:=hrel;by_cases k8:i<n
   ·have fr:i<AL.length:=(by have:=hS.out;omega);have cc:i<L.length:=(by have:=ba.out;omega);obtain⟨b9,li,ll,fv,e9⟩:=hA.see.cell1 (λ(h:Hd)=>h.v) rfl i fr;have fB:=(e2 i fr cc).fr A;have hT:=gs _ (co cc);have hU:=ad (jY _ _ wr fB ω);have hV:Hid (L.take (i+1)=L.take i++[L[i]]):=ad (by rw[qK,cQ cc];rfl);simp only[dt]at fv;obtain⟨rfl,bv,rfl⟩:=fv;clear bv fB hT;generalize AL[i]=h9 at *;generalize L[i]=cf at *;obtain⟨oa,oc,ap⟩:=hO.shape';have fC:=ad cb;rw[cb]at ap;subst ap;have i1:(0:Int)<=i:=ω;have i2:(i:Int)<n:=ω;have hZ:w.heap.size<=wr.heap.size:=(by have h1:=fe.out;have h2:=A.size;omega);go_wp2_with fail;apply hU.z;rintro e w8 ⟨v8,rfl,fD,Z⟩;obtain⟨ch,ci,rfl⟩:=fD.shape';have be:=hO.fr Z;have ia:=ca.fr Z;have fE:=hA.fr Z;have cj:=A.trans Z;go_wp2_with (at_builtin;refine bA aS rfl (.tmp 111) (.tmp 114) 42 rfl uAE w4.heap.size rfl be [⟨ch,cf.length,ci⟩] _ _ _ rfl rfl rfl ?c1 cj.size ?_);case c1=>rw[fC.out];simp;omega
    intro v' ic aa;obtain⟨X2,ck⟩:∃q,q=xs++[(⟨ch,cf.length,ci⟩:Hd)]:=⟨_,rfl⟩;have cl:=aa.own;rw[<- ck]at cl;have fP:=(ia.app be aa δ).snoc (x:=⟨ch,cf.length,ci⟩) (bX (fD.rebase hZ) be aa δ);rw[<- ck,<- hV.out]at fP;have fQ:X2.length=i+1:=(by rw[ck,aM,fC.out];rfl);have ih:Fr w4 ic:=aa.below be cj (au _) cj.size;have ij:=aa.other fE fn;have i0:=aa.apart fE fn;obtain⟨lt,lu,fS⟩:=cl.shape';have i3:=ad fQ;rw[fQ]at fS;subst fS;go_wp2;go_roundw;·exact⟨i+1,X2,ω,γ,cl,fP,i3.out,ih,ij,i0⟩
    ·exact μ
   ·obtain rfl:n=i:=ω;rw[dN (by rw[ba.out];exact au _)]at ca;have gg:¬((n:Int)<n):=ω;obtain⟨oa,oc,ap⟩:=hO.shape';rw[cb]at ap;subst ap;go_wp2;go_ret2;exact⟨_,rfl,xs,hO.rebase fe.out,ca,es.trans A⟩
structure je (w:World) (B base k m c:Nat) (ov:Value) (out:U0) (bv:Value) (bad:List Nat) (n:Nat):Prop where
 h:w.heap[B]?=some (.cells #[N k,N m,N c,ov,bv,N n] 175 (0,0))
 o:Ow w base eB ov out
 b:Ow w base eJ bv bad
def je.fr{w w':World}{B base k m c n:Nat}{e f:Value}{o:U0}{p:List Nat}(h:je w B base k m c e o f p n)(d:Fr w w'):je w' B base k m c e o f p n:=⟨d.heap h.h,h.o.fr d,h.b.fr d⟩
def J6(B base k m c n:Nat)(U V v:Value)(ah l:U0)(d:List Nat)(w:World)(hR:je w B base k m c U ah V d n)(hs:ao w eB v l)(h4:4<=l.length)(hl:l.length<=1000000)(hn:n<=40000000)(b0:d.length<=40000000)(A:base<=w.heap.size)(ht:dm w):Calls prog 179 #[.pointer (some ⟨B,0,none⟩),v] w λe w'=>∃u,e=.returned (.tuple #[u,.bool (bQ l)])/\Ow w' w.heap.size eB u (aY l)/\∃p,je w' B base k m c U ah p (if bQ l then d else d++[n]) (n+1)/\ag (λk=>k=B\/V.ownBlock=some k) w w'/\(∀b,p.ownBlock=some b->V.ownBlock=some b\/w.heap.size<=b):=by
 have HC:=ad (qC v l w hs ω ht);have HE:Hid (cM l=if bQ l then 0 else 5):=by show _=_;unfold cM;simp[show ¬l.length<4 by omega]
 rw[HE.out]at HC;obtain⟨M,W,I⟩:=hR;have aj:=W.ne_cells M δ;have a6:=I.ne_cells M δ;have a7:=lE I W δ;obtain⟨F,G,rfl⟩:=I.shape';generalize bQ l=ok,aY l=q at *;go_in;go_wp2_with fail;apply HC.z;rintro e z ⟨u,rfl,hu,D⟩;have J:=D.heap M;have a8:=W.fr D;have al:=I.fr D;have a9:=ar A D.size;have c2:=af J 4 rfl;have c3:=af J 5 rfl;have z2:=aB J 4;have aC:∀i,(Value.slice F d.length G).ownBlock=some i->i<w.heap.size:=λi o=>(I.lt i o).2;have ba:=(aX.1 M).1;go_upto_if 14 with fail;go_cut []from 13 to 28 (λX=>∃p,X.heap[B]?=some (.cells #[N k,N m,N c,U,p,N n] 175 (0,0))/\Ow X base eJ p (if ok then d else d++[n])/\ag (λk=>k=B\/(Value.slice F d.length G).ownBlock=some k) z X/\(∀b,p.ownBlock=some b->(Value.slice F d.length G).ownBlock=some b\/z.heap.size<=b))
 ·
  cases ok
  ·have bb:Hid (d.length+[n].length<=2147483648):=(by show _<=_;simp;omega);have hD:=al.drew;have bc:Hid (base<=z.drew.heap.size):=a9;have bd:Fr z (z.alloc (.cells #[N n] 3)):=(Fr.refl z).alloc _;have b3:=bd.cell c2;go_upto_region 3 with fail
   go_region_law (refine oB eJ rfl (.tmp 19) (.tmp 24) 40 rfl uAC base rfl hD [n] _ _ _ rfl rfl rfl bb.out bc.out ?_
                  intro v' w4 O
                  have Y := O.own
                  have be : Hid (ag (λk => (Value.slice F d.length G).ownBlock = some k) z w4) := O.chg'
                  have bf : Hid (∀b, v'.ownBlock = some b → (Value.slice F d.length G).ownBlock = some b ∨ z.heap.size ≤ b) := O.fresh
                  have Q := O.chg'.heap (show z.drew.heap[B]? = _ from J) a6
                  have e3 := af Q 4 rfl
                  have e4 := aB Q 4
                  obtain ⟨Z, vc, bk⟩ := Y.shape'
                  subst bk)
   all_goals go_wp2_with fail
   all_goals go_meet
   all_goals refine⟨.slice Z (d.length+1) vc,?_,?_,(be.out.mono (λk _ h=>Or.inr h)).trans (ay w4 ⟨B,4,none⟩ _) (λk _ h=>Or.inl h),λb A=>bf.out b (by simpa using A)⟩
   all_goals first
    | (have hk:=aI Q 4 (.slice Z (d.length+1) vc);simpa using hk)
    | (have bl:=Y.chg (ay w4 ⟨B,4,none⟩ (.slice Z (d.length+1) vc)) (λk hk e=>(Y.ne_cells Q δ) (by rw[hk,show k=B from e]));simpa using bl)
  ·go_wp2;go_meet;exact⟨_,J,al,ag.refl _ _,λb h=>.inl h⟩
 ·
  obtain⟨p,K,am,R,ap⟩:=hcut;have b6:=D.size;have bm:∀i,(i=B\/(Value.slice F d.length G).ownBlock=some i)->i<w.heap.size:=λi e=>by
   rcases e with e | e;·rw[e];exact ba
   ·exact aC i e
  have ac:=hu.chg R (fun i o e=>by have h8:=(hu.lt i o).1;have h9:=bm i e;omega);have bq := a8.chg R (fun i o e => by
    rcases e with e | e;·exact aj (by rw[o, e])
    · rcases a7 with h | h;·rw[h] at e; cases e
      · exact h (e.trans o.symm))
  obtain⟨ua,uc,rfl⟩:=ac.shape';have d5:=af K 5 rfl;have z5:=aB K 5;have L:=ay wc ⟨B,5,none⟩ (.int .i64 ((n:Int)+1));have h3:=aI K 5 (.int .i64 ((n:Int)+1));have fZ:=ac.ne_cells K δ;have bs:=am.ne_cells K δ;have az:=ac.chg L (λi o e=>fZ (by rw[o,show i=B from e]));have a0:=bq.chg L (λi o e=>aj (by rw[o,show i=B from e]));have a1:=am.chg L (λi o e=>bs (by rw[o,show i=B from e]));cases ok;·go_wp2;go_ret2;exact⟨_,rfl,az,p,⟨h3,a0,a1⟩,((D.chg _).trans R (λ_ _ h=>h)).trans L (λ_ _ h=>.inl h),λb A=>(ap b A).imp id (λh=>by omega)⟩
  ·go_wp2;go_ret2;exact⟨_,rfl,az,p,⟨h3,a0,a1⟩,((D.chg _).trans R (λ_ _ h=>h)).trans L (λ_ _ h=>.inl h),λb A=>(ap b A).imp id (λh=>by omega)⟩
def Pa(k m b c1 c2:Nat)(a1 a2:Option Addr)(p M:U0)(w:World)
  (hb:w.heap[b]?=some (.cells #[N k,N k,.slice a1 (k*k) c1,N m,N k,.slice a2 (m*k) c2] 165 (0,0)))
  (hs1:ao w eB (.slice a1 (k*k) c1) p) (hs2:ao w eB (.slice a2 (m*k) c2) M) (hl1:p.length=k*k) (hl2:M.length=m*k) (O:1<=k) (hkm:k+m<=255) :
  Calls prog 207 #[.slice (some ⟨b,0,none⟩) 2 2] w λe w'=>∃u,e=.returned (.tuple #[.agg #[N (k+m),N k,u],.int .i64 0])/\Ow w' w.heap.size eB u (p++M)/\Fr w w':=by
 have cp:k*k<=255*255:=bo ω ω;have cq:m*k<=255*255:=bo ω ω;have M1:=ad (uG k k a1 c1 ω ω);have M2:=ad (uG m k a2 c2 ω ω);have bb:=ad hl1;have bc:=ad hl2;clear hl1 hl2;generalize m*k=mk,k*k=kk at *;have q0:=af hb 0 rfl;have q1:=af hb 1 rfl;have q2:=af hb 2 rfl;have q3:=af hb 3 rfl;have q4:=af hb 4 rfl;have q5:=af hb 5 rfl;obtain⟨o,b9⟩:∃q,q=k+m:=⟨_,rfl⟩;rw[<- b9];have cr:IntKind.i64.wrap ((k:Int)+m)=(o:Int):=by rw[show(k:Int)+m=(o:Int) by omega];exact dS _ ω
 have cs:¬(255:Int)<k:=ω
 have ct:¬(255:Int)<o:=ω
 have cu:k+m<=255:=hkm;have cv:IntKind.i64.wrap (k:Int)=(k:Int):=dS _ ω;clear hb b9 hkm;go_in;have bC:((w.alloc (.cells #[.int .i64 0,.int .i64 0,.slice none 0 0] 165)).alloc (.cells #[.int .i64 0,N k,.slice none 0 0] 165)).heap[w.heap.size]?=some (.cells #[.int .i64 0,.int .i64 0,.slice none 0 0] 165 (0,0)):=by rw[gn _ _ _ σ,aD _ _ _ rfl]
 have bG:((w.alloc (.cells #[.int .i64 0,.int .i64 0,.slice none 0 0] 165)).alloc (.cells #[.int .i64 0,N k,.slice none 0 0] 165)).heap[w.heap.size+1]?=some (.cells #[.int .i64 0,N k,.slice none 0 0] 165 (0,0)):=aD _ _ _ σ;have bL:Fr w ((w.alloc (.cells #[.int .i64 0,.int .i64 0,.slice none 0 0] 165)).alloc (.cells #[.int .i64 0,N k,.slice none 0 0] 165)):=((Fr.refl w).alloc _).alloc _;have cb:((w.alloc (.cells #[.int .i64 0,.int .i64 0,.slice none 0 0] 165)).alloc (.cells #[.int .i64 0,N k,.slice none 0 0] 165)).heap.size=w.heap.size+2:=σ
 have cc:(w.alloc (.cells #[.int .i64 0,.int .i64 0,.slice none 0 0] 165)).cell? ⟨b,1,none⟩=some (N k):=((Fr.refl w).alloc _).cell q1;go_upto_region 5 with fail;clear cc;generalize (w.alloc (.cells #[.int .i64 0,.int .i64 0,.slice none 0 0] 165)).alloc (.cells #[.int .i64 0,N k,.slice none 0 0] 165)=w0 at *;generalize Q:w.heap.size=g at *;go_loopw [5] (λiv wr=>∃(i r:Nat) (h:Value) (L:U0),iv=N i/\Hid ((i=0/\r=0/\L=[])\/(i=1/\r=k/\L=p)\/(i=2/\r=o/\L=p++M))/\wr.heap[g]?=some (.cells #[.int .i64 0,.int .i64 0,.slice none 0 0] 165 (0,0))/\wr.heap[g+1]?=some (.cells #[N r,N k,h] 165 (0,0))/\Ow wr (g+2) eB h L/\Fr w wr/\g+2<=wr.heap.size) (λiv _=>2-(intOf iv).toNat);·exact⟨0,0,_,[],rfl,.inl ⟨rfl,rfl,rfl⟩,bC,bG,Ow.nil,bL,ω⟩
 ·
  clear bC bG bL cb;obtain⟨i,r,h,L,rfl,HH,R,I,V,z,hs⟩:=hrel;have p0:=z.cell q0;have p1:=z.cell q1;have W:=z.cell q2;have p3:=z.cell q3;have p4:=z.cell q4;have p5:=z.cell q5;have X:∀q,h.ownBlock=some q->g+2<=q:=λq J=>(V.lt q J).1;rcases HH.out with⟨rfl,rfl,rfl⟩ | ⟨rfl,hr,hL⟩ | ⟨rfl,hr,rfl⟩
  ·have Y:=af I 0 rfl;have Z:=af I 1 rfl;go_upto_region 7 with fail
   go_region_held3 (λw' => w'.cell? ⟨g + 1, 0, none⟩ = some (.int .i64 0) ∧ w'.cell? ⟨g + 1, 1, none⟩ = some (N k) ∧ w'.cell? ⟨b, 0, none⟩ = some (N k) ∧ w'.cell? ⟨b, 1, none⟩ = some (N k) ∧ w'.cell? ⟨b, 2, none⟩ = some (.slice a1 kk c1))
    (first | go_keep)
    ((first
      | (go_at_call 267; refine (M1.out _).mono ?_; rintro e U ⟨rfl, d⟩; have Y := d.cell Y; have Z := d.cell Z; have p0 := d.cell p0; have p1 := d.cell p1; have W := d.cell W)))
   have d:=(Fr.refl wr).drew.trans d;have aa:=d.heap I;have ap:=d.heap R;have av:=V.fr d;have az:=z.trans d;have bm:g+2<=U.heap.size:=(by have:=d.size;omega);have g0:=aB aa 0;clear d I R V z hs;go_wp2;go_cut []from 49 to 58 (λD=>D.heap[g]?=some (.cells #[.int .i64 0,.int .i64 0,.slice none 0 0] 165 (0,0))/\D.heap[g+1]?=some (.cells #[(N k),N k,h] 165 (0,0))/\Ow D (g+2) eB h ([]:U0)/\Fr w D/\g+2<=D.heap.size)
   ·
    go_region;all_goals go_wp2_with fail
    all_goals go_meet
    have ab:=ay U ⟨g+1,0,none⟩ (N k);exact⟨ab.heap ap (λe=>by have e:g=g+1:=e;omega),aI aa 0 _,(av.chg ab (λk O e=>by have e:k=g+1:=e;have:=X k O;omega)).drew,Fr.drew (ag.below az ab (by rw[Q];omega) (λi e=>by have e:i=g+1:=e;rw[Q];omega)),by simp[World.setCell];omega⟩
   ·
    obtain⟨bs,a0,bt,K,a3⟩:=hcut;clear aa ap av az bm g0 Y Z p0 p1 W p3 p4 p5;have f2:=af a0 2 rfl;have W:=K.cell q2;have bu:=(hs1.fr K).drew;have a4:=bt.drew;have bv:Hid (([]:U0).length+p.length<=2147483648):=(by show _<=_;first | (rw[bb.out];simp;omega) | (rw[bb.out,bc.out];omega));go_upto_region 10 with fail
    go_region_law (refine mH eB rfl (.tmp 59) (.tmp 64) 22 rfl sJ (g + 2) rfl a4 _ _ rfl bu bv.out a3 ?_
                   intro v' w4 F
                   have G := F.own
                   obtain ⟨q9, ac⟩ : ∃q, q = p := ⟨_, rfl⟩
                   have G : Ow w4 (g + 2) eB v' q9 := by rw[ac]; exact G
                   have bx := ad ac
                   clear ac
                   obtain ⟨va, vc, b0⟩ := G.shape'
                   subst b0
                   have ah := F.chg'.heap (show wc.drew.heap[g + 1]? = _ from a0) (λe => by have := X _ e; omega)
                   have b1 := F.chg'.heap (show wc.drew.heap[g]? = _ from bs) (λe => by have := X _ e; omega)
                   have a6 : Fr w w4 := F.below a4 (Fr.drew K) (by rw[Q]; omega) (Fr.drew K).size
                   have ci : g + 2 ≤ w4.heap.size := ar a3 F.size
                   have e3 := af ah 2 rfl
                   have e4 := aB ah 2
                   have b2 : ∀q, (Value.slice va q9.length vc).ownBlock = some q → g + 2 ≤ q := λq J => (G.lt q J).1)
    all_goals go_wp2_with fail
    all_goals go_roundw
    all_goals first
     | (simp[intOf];done)
     | exact⟨1,_,_,_,γ,.inr (.inl ⟨rfl,rfl,bx.out⟩),by rw[kh _ _ _ _ σ];exact b1,aI ah 2 _,G.chg (ay w4 ⟨g+1,2,none⟩ _) (λk O e=>by have e:k=g+1:=e;have:=b2 k O;omega),ag.below a6 (ay w4 ⟨g+1,2,none⟩ _) a6.size (λi e=>by have e:i=g+1:=e;rw[Q];omega),by simp[World.setCell];omega⟩
  ·obtain rfl:k=r:=hr.symm;obtain rfl:p=L:=hL.symm;have Y:=af I 0 rfl;have Z:=af I 1 rfl;go_upto_region 7 with fail
   go_region_held3 (λw' => w'.cell? ⟨g + 1, 0, none⟩ = some (N k) ∧ w'.cell? ⟨g + 1, 1, none⟩ = some (N k) ∧ w'.cell? ⟨b, 3, none⟩ = some (N m) ∧ w'.cell? ⟨b, 4, none⟩ = some (N k) ∧ w'.cell? ⟨b, 5, none⟩ = some (.slice a2 mk c2))
    (first | go_keep)
    ((first
      | (go_at_call 267; refine (M2.out _).mono ?_; rintro e U ⟨rfl, d⟩; have Y := d.cell Y; have Z := d.cell Z; have p3 := d.cell p3; have p4 := d.cell p4; have p5 := d.cell p5)))
   have d:=(Fr.refl wr).drew.trans d;have aa:=d.heap I;have ap:=d.heap R;have av:=V.fr d;have az:=z.trans d;have bm:g+2<=U.heap.size:=(by have:=d.size;omega);have g0:=aB aa 0;clear d I R V z hs;go_wp2;go_cut []from 49 to 58 (λD=>D.heap[g]?=some (.cells #[.int .i64 0,.int .i64 0,.slice none 0 0] 165 (0,0))/\D.heap[g+1]?=some (.cells #[(N o),N k,h] 165 (0,0))/\Ow D (g+2) eB h p/\Fr w D/\g+2<=D.heap.size)
   ·
    go_region;all_goals go_wp2_with fail
    all_goals go_meet
    have ab:=ay U ⟨g+1,0,none⟩ (N o);exact⟨ab.heap ap (λe=>by have e:g=g+1:=e;omega),aI aa 0 _,(av.chg ab (λk O e=>by have e:k=g+1:=e;have:=X k O;omega)).drew,Fr.drew (ag.below az ab (by rw[Q];omega) (λi e=>by have e:i=g+1:=e;rw[Q];omega)),by simp[World.setCell];omega⟩
   ·
    obtain⟨bs,a0,bt,K,a3⟩:=hcut;clear aa ap av az bm g0 Y Z p0 p1 W p3 p4 p5;have f2:=af a0 2 rfl;have W:=K.cell q5;have bu:=(hs2.fr K).drew;have a4:=bt.drew;have bv:Hid (p.length+M.length<=2147483648):=(by show _<=_;first | (rw[bc.out];simp;omega) | (rw[bb.out,bc.out];omega));go_upto_region 10 with fail
    go_region_law (refine mH eB rfl (.tmp 59) (.tmp 64) 22 rfl sJ (g + 2) rfl a4 _ _ rfl bu bv.out a3 ?_
                   intro v' w4 F
                   have G := F.own
                   obtain ⟨q9, ac⟩ : ∃q, q = p ++ M := ⟨_, rfl⟩
                   have G : Ow w4 (g + 2) eB v' q9 := by rw[ac]; exact G
                   have bx := ad ac
                   clear ac
                   obtain ⟨va, vc, b0⟩ := G.shape'
                   subst b0
                   have ah := F.chg'.heap (show wc.drew.heap[g + 1]? = _ from a0) (λe => by have := X _ e; omega)
                   have b1 := F.chg'.heap (show wc.drew.heap[g]? = _ from bs) (λe => by have := X _ e; omega)
                   have a6 : Fr w w4 := F.below a4 (Fr.drew K) (by rw[Q]; omega) (Fr.drew K).size
                   have ci : g + 2 ≤ w4.heap.size := ar a3 F.size
                   have e3 := af ah 2 rfl
                   have e4 := aB ah 2
                   have b2 : ∀q, (Value.slice va q9.length vc).ownBlock = some q → g + 2 ≤ q := λq J => (G.lt q J).1)
    all_goals go_wp2_with fail
    all_goals go_roundw
    all_goals first
     | (simp[intOf];done)
     | exact⟨2,_,_,_,γ,.inr (.inr ⟨rfl,rfl,bx.out⟩),by rw[kh _ _ _ _ σ];exact b1,aI ah 2 _,G.chg (ay w4 ⟨g+1,2,none⟩ _) (λk O e=>by have e:k=g+1:=e;have:=b2 k O;omega),ag.below a6 (ay w4 ⟨g+1,2,none⟩ _) a6.size (λi e=>by have e:i=g+1:=e;rw[Q];omega),by simp[World.setCell];omega⟩
  ·obtain rfl:o=r:=hr.symm;have bT:(prog.info? 165).map (·.size)=some 3:=(by kernel_rfl);have cl:(#[N o,N k,h]:Array Value).all (·.oneCell')=true:=(by obtain⟨va,vc,rfl⟩:=V.shape';rw[dQ];rfl);have cm:Ow (wr.setRow g #[N o,N k,h]) (g+2) eB h (p++M):=V.chg (bh wr g _) λq J=>(by have:=X q J;show ¬q=g;omega);have cn:Fr w (wr.setRow g #[N o,N k,h]):=ag.below z (bh wr g _) z.size (λq J=>by rw[J];omega);have z0:=fk wr g 0 _ #[N o,N k,h] _ _ R;have z1:=fk wr g 1 _ #[N o,N k,h] _ _ R;have z2:=fk wr g 2 _ #[N o,N k,h] _ _ R;clear p0 p1 W p3 p4 p5 q0 q1 q2 q3 q4 q5 V M1 M2 HH;generalize c5:p++M=LL at *;go_wp2_with (first | (refine dM rfl 165 (.tmp 4) rfl (g+1) rfl 165 #[N o,N k,h] (0,0) _ I uAF rfl bT ?_) | (refine bB rfl 165 (.tmp 2) (.tmp 67) rfl g #[N o,N k,h] rfl rfl 165 _ R bT rfl cl ?_));exact aT (by simp[results,results207,go_sem, *]) rfl ⟨_,rfl,cm.rebase ω,cn⟩
