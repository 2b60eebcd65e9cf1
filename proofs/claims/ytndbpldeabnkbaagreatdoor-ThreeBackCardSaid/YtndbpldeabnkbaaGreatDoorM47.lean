/- Lemmas for ThreeTurned. -/
import Derived.Test.YtndbpldeabnkbaaGreatDoorM40
import Derived.Test.YtndbpldeabnkbaaGreatDoorM46
set_option linter.all false
set_option maxHeartbeats 8000000
set_option maxRecDepth 100000
namespace Go.Proofs.YtndbpldeabnkbaaGreatDoor
open Go.RowKit Go.Fk
def Kr(i n:Nat)(h:i<n)(d:n<=32768):wrap64 ((i:Int)+1)=((i+1:Nat):Int):=by rw[IntWalk.wrap64_in _ ω];omega
def Qp(i n:Nat)(h:i<n):n-(intOf (N (i+1))).toNat<n-(intOf (N i)).toNat:=by simp[intOf];omega
def V0(g k:Nat)(v:Value)(d:List Nat)(w:World)(A:w.cell? ⟨g,0,none⟩=some v)(h:ah w eJ v d)(m:k<=d.length)(D:d.length<=1000000)(F:d.sum<=1000000000000):Calls Tryz.prog 95 #[.pointer (some ⟨g,0,none⟩),N k] w λe w'=>e=.returned (N (d.take k).sum)/\w=w':=by
 obtain⟨G,I,rfl,J,K,_⟩:=h.shape;obtain⟨L,o⟩:=jj eJ 56 Tryz.underlying56 h k m;have M:(d.take k).sum<=d.sum:=by have:=ot (l₁:=d.take k) (l₂:=d.drop k);rw[jC]at this;omega
 have z:=ad (yC _ (d.take k) w o (by rw[aA];omega) ω);go_in;go_wp2_with fail;apply z.z;rintro e O ⟨rfl,rfl⟩;go_wp2;go_ret;exact⟨rfl,rfl⟩
def WY(v:Value)(b:Z0)(w:World)(m:ah w eB v b)(d:b.length<=1000000):Calls Tryz.prog 94 #[.bool false,v] w λe w'=>∃u,e=.returned (.tuple #[u,.int .i64 ((iN false b).2:Int)])/\Ow w' w.heap.size eR u (iN false b).1/\Fr w w':=
 WX false (λB base s b W h d _=>Oa B base s b W h d) v b w m d
def SV(g base k:Nat)(B:iF)(w:World)(hB:mh w g base B)(o:yV B)(I:k<B.frames.length)(ht:cP w):Calls Tryz.prog 51 #[.pointer (some ⟨g,0,none⟩),N k] w λe w'=>∃u,e=.returned (.tuple #[u,.int .i64 ((jl B k).2:Int)])/\Ow w' w.heap.size eR u (jl B k).1/\Fr w w':=by
 obtain⟨⟨cv,sv,tv,lv,xv,yv,fv,av,Y,a7,_,aC,ba,_,_,⟨Z,ch,bb⟩⟩,_⟩:=hB;have bc:k<Z.length:=by rw[bb.1];exact I
 have aa:k<B.counts.length:=by rw[<- o.fr];exact I
 have bd:(ft B k)=B.frames[k]:=by unfold ft;rw[bq,bj I];rfl
 have dT:(ft B k).length<=1000000:=by rw[bd];exact o.fl _ (bJ I)
 have ap:ah w eB Z[k].v (ft B k):=by rw[bd];exact(bb.2 k bc I).see
 obtain⟨b5,o5,p5,el,e5⟩:=ch.see.cell1 (λh:Hd=>h.v) rfl k bc;have c5:w.cell? ⟨b5,o5+k,none⟩=some (Z[k].v):=e5;obtain⟨fh,cl⟩:∃fh,fh=Z[k].v:=⟨_,rfl⟩;rw[<- cl]at c5 ap;have bl:=ad (XU fh (ft B k) w ap dT ht);obtain⟨fa,fc,rfl,_⟩:=ap.shape;subst el;obtain⟨b6,o6,p6,es,e6⟩:=a7.see.cell1 N rfl k aa;have c6:w.cell? ⟨b6,o6+k,none⟩=some (N B.counts[k]):=e6;have cn:=ad a7.see;subst es;have HT:=ad aC.see;have HL:=ad ba.see;obtain⟨ta,tc,e1⟩:=aC.shape';obtain⟨la,lc,e2⟩:=ba.shape';subst e1;subst e2;have cp:(B.counts.take k).sum+B.counts[k]<=B.counts.sum:=by have J:=ot (l₁:=B.counts.take (k+1)) (l₂:=B.counts.drop (k+1));rw[jC,f8 aa,ot]at J;simp only[gQ,List.sum_nil]at J;omega
 have bn:B.counts.getD k 0=B.counts[k]:=by rw[bq,bj aa];rfl
 have bs:=ID (ft B k);have ab:=ad (λu W (h:ah W eB u (df (ft B k)).1)=>WY u (df (ft B k)).1 W h ω);have a0:=EE false (df (ft B k)).1;obtain⟨L,cq⟩:∃L,L=B.counts[k]'aa:=⟨_,rfl⟩;rw[<- cq]at bn cp c6
 have M : Hid (jl B k = if (df (ft B k)).2.2 = 0 then
   (if (df (ft B k)).2.1 < (ft B k).length then ([], 2)
    else if (iN false (df (ft B k)).1).2 = 0 then
      (if (iN false (df (ft B k)).1).1.length = L then (rA B (B.counts.take k).sum (iN false (df (ft B k)).1).1, 0) else ([], 2))
    else ([], (iN false (df (ft B k)).1).2))
   else ([], (df (ft B k)).2.2)) := by show _ = _; rw[← bn]; rfl
 have cs:=ad (λW v (h:ah W eJ v B.counts) (hc:W.cell? ⟨g,0,none⟩=some v)=>V0 g k v B.counts W hc h ω (by have:=o.fr;have:=o.nf;omega) (by have:=o.sm;omega));have e4:=ad (λm (h:m<B.times.length)=>o.tl _ (bJ h));have e7:B.times.length=B.counts.sum:=o.tm;have e8:B.levels.length=B.counts.sum:=o.lv;have e9:=o.sm;have ct:=ad (Di B (B.counts.take k).sum);have cu:=ad (wV B (B.counts.take k).sum);have fb:Hid (∀m (h:m<B.times.length),B.times.getD m 0=B.times[m]'h):=λm h=>by rw[bq,bj h];rfl
 have fe:Hid (∀m (h:m<B.levels.length),B.levels.getD m 0=B.levels[m]'h):=λm h=>by rw[bq,bj h];rfl
 have x3:=ag Y 8 rfl;have x0:=ag Y 0 rfl;have x4:=ag Y 4 rfl;have x5:=ag Y 5 rfl;have i1:(0:Int)<=k:=ω
 have i2:(k:Int)<Z.length:=ω
 have i3:(k:Int)<B.counts.length:=ω
 clear Y a7 aC ba ch bb ap bd o I e5 e6 bn ht cl cq;generalize jl B k=FR at *;generalize fk:ft B k=X at *;generalize fl:(B.counts.take k).sum=F at *;generalize df X=K at *;obtain⟨kl,kn,ke⟩:=K;simp only at bl ab M bs a0;generalize fn:iN false kl=R at *;obtain⟨d,re⟩:=R;simp only at ab M a0;clear fk fl fn;go_in;go_wp2_with fail;apply bl.z;rintro e w1 ⟨u1,rfl,a1,O⟩;obtain⟨q1,z1,rfl⟩:=a1.shape';have y3:=O.cell x3;have d5:=O.cell c5;clear bl x3 c5;by_cases J:ke=0
 ·have Q:=ad (M.out.trans (af J));have j1:((ke:Nat):Int)=0:=ω;rw[j1];have c7:=ad (ab.out _ w1 a1.see);clear M J j1 ab a1;by_cases h2:kn<X.length;·have U:=ad (Q.out.trans (af h2));have j2:(kn:Int)<X.length:=ω;clear Q;go_wp2;go_ret2;rw[U.out];exact⟨_,rfl,Ow.nil,O⟩
  ·have U:=ad (Q.out.trans (ae h2));have j2:¬(kn:Int)<X.length:=ω;clear Q;go_wp2_with fail;apply c7.z;rintro e w2 ⟨u2,rfl,b1,f5⟩;obtain⟨q2,z2,rfl⟩:=b1.shape';have z:=O.trans f5;have y0:=z.cell x0;have d6:=z.cell c6;have b2:=b1.rebase O.size;clear c7 x0 c6 d5 y3 b1;by_cases h3:re=0
   ·have V:=ad (U.out.trans (af h3));have j3:((re:Nat):Int)=0:=ω;rw[j3];clear U h3 j3;by_cases h4:d.length=L
    ·have a4:=ad (V.out.trans (af h4));have j4:(d.length:Int)=L:=ω;have cE:=ad (cs.out w2 _ (cn.out.fr z) y0);have cF:=ad h4;clear V cs h4;go_wp2_with fail;apply cE.z;rintro e w3 ⟨rfl,rfl⟩;clear cE;have hO:=b2;have f9:=z.size;clear b2 y0 d6 cn;obtain⟨T,hT⟩:∃T,T=rA B F d:=⟨_,rfl⟩;have cN:T.length=d.length:=(by rw[hT];exact cu.out d);have ac:=ad cN;have fB:Hid (∀i (h:i<d.length) (h2:i<T.length),T[i]=d[i].tl (B.times.getD (F+i) 0) (B.levels.getD (F+i) 0)):=λi h h2=>(by subst hT;exact ct.out d i h);rw[<- hT]at a4;clear hT ct cu cN;go_wp2;go_loopw [67] (λiv wr=>∃i:Nat,i<=d.length/\iv=N i/\Ow wr w.heap.size eR (.slice q2 d.length z2) (T.take i++d.drop i)/\Fr w wr) (λiv _=>d.length-(intOf iv).toNat);case atStart=>exact⟨0,ar _,rfl,by simpa using hO,z⟩
     case round=>
      clear hO z;obtain⟨i,hi,rfl,G,A⟩:=hrel;by_cases D:i<d.length
      ·have da:=F5 T d i ac.out hi;have aj:i<(T.take i++d.drop i).length:=ω;obtain⟨g2,z3,dc,b9,fC,fD⟩:=G.atHead (λe=>by rw[e]at aj;simp at aj);obtain⟨bR,oR,cR,di,bA,bB,fN,fP⟩:=no G.see i aj;rw[da]at dc di;cases dc;cases di;rw[iH]at bA bB;obtain⟨u0,r0⟩:∃u,wr.cell? ⟨g2,i*4,none⟩=some u:=⟨_,bA⟩;obtain⟨h9,r1⟩:∃u,wr.cell? ⟨g2,i*4+1,none⟩=some u:=⟨_,bB⟩;obtain⟨dj,ca⟩:∃dj,wr.heap[g2]?=some (.cells dj (eR).e (0,0)):=⟨_,G.parts.2.2.choose_spec.1⟩;have f0:=a8 ca (i*4);have f1:=a8 ca (i*4+1);obtain⟨m,hm⟩:∃m,m=F+i:=⟨_,rfl⟩;have a6:m<B.times.length:=(by have:=cF.out;omega);have cb:m<B.levels.length:=(by have:=cF.out;omega);obtain⟨bT,oT,cT,ga,dv⟩:=(HT.out.fr A).cell1 (λn:Nat=>Value.int .u64 (n:Int)) rfl m a6;obtain⟨bL,oL,cL,ge,eL⟩:=(HL.out.fr A).cell1 Fk.u8 rfl m cb;have hK:=A.cell x4;have hL:=A.cell x5;cases ga;cases ge;have d1:=e4.out m a6;have d2:Hid ((T.take i++d.drop i).set i ((T.take i++d.drop i)[i].tl B.times[m] B.levels[m])=T.take (i+1)++d.drop (i+1)):=(by show _=_;rw[Ql T d i ac.out D,<- Qk T d i ac.out D,fB.out i D (by rw[ac.out];exact D),<- hm,fb.out m a6,fe.out m cb]);have hS:=Pq G i aj B.times[m] d1 B.levels[m];rw[d2.out]at hS;have hM:wr.cell? ⟨bT,oT+m,none⟩=some (Value.int .u64 (B.times[m]:Int)):=dv;have hR:wr.cell? ⟨bL,oL+m,none⟩=some (.int .u8 (B.levels[m].toNat:Int)):=eL;generalize B.times[m]=xt at *;generalize B.levels[m]=xl at *;have d3:Fr w ((wr.setCell ⟨g2,i*4,none⟩ (.int .u64 (xt:Int))).setCell ⟨g2,i*4+1,none⟩ (Fk.u8 xl)):=ep (ep A b9 A.size) b9 (by simpa [World.setCell] using A.size);have i4:(m:Int)<B.times.length:=ω;have i5:(m:Int)<B.levels.length:=ω;have i6:(0:Int)<=m:=ω;have i7:(i:Int)<d.length:=ω;have i8:(0:Int)<=i:=ω;have ia:IntKind.i64.wrap ((F:Int)+i)=(m:Int):=(by rw[ax _ ω];omega);have ic:wrap64 ((F:Int)+i)=(m:Int):=(by rw[IntWalk.wrap64_in _ ω];omega);have HS:=ad (And.intro hS d3);have gs:Hid (d.length<=32768):=ay a0 bs;have gv:=ad (Qp i d.length D);have g0:=ad (Kr i d.length D gs.out);have ih:=ad hi;have g1:=ad D;clear d1 b9 fC fD cp f9 e9 e7 e8 bs a0 bc aa hi D bA bB fN fP dv eL d2 G a6 cb hm ca aj da hS d3 x4 x5;go_upto_region 15 with fail;go_region;all_goals go_wp2_with fail
       rw[g0.out];exact⟨⟨i+1,g1.out,rfl,HS.out.1.drew,HS.out.2.trans (Fr.refl _).drew⟩,gv.out⟩
      ·obtain rfl:i=d.length:=ω;have ij:¬((d.length:Int)<d.length):=ω;have HO:Hid (Ow wr w.heap.size eR (.slice q2 d.length z2) T):=(by have h:=G;rw[nL,dg,cw (iT ac.out)]at h;exact h);clear G;go_wp2;go_ret2;rw[a4.out];exact⟨_,rfl,HO.out,A⟩
    ·have a4:=ad (V.out.trans (ae h4));have j4:¬(d.length:Int)=L:=ω;clear V;go_wp2;go_ret2;rw[a4.out];exact⟨_,rfl,Ow.nil,z⟩
   ·have V:=ad (U.out.trans (ae h3));have j3:¬((re:Nat):Int)=0:=ω;clear U b2;go_wp2;go_ret2;rw[V.out];exact⟨_,rfl,Ow.nil,z⟩
 ·have Q:=ad (M.out.trans (ae J));have j1:¬((ke:Nat):Int)=0:=ω;clear M ab a1;go_wp2;go_ret2;rw[Q.out];exact⟨_,rfl,Ow.nil,O⟩
def yF{w w':World}{g base:Nat}{B:iF}(h:mh w g base B)(d:Fr w w'):mh w' g base B:=by
 obtain⟨⟨e,m,o,z,A,D,F,G,I,J,K,k3,L,M,⟨O,Q,R⟩,⟨U,V,X⟩⟩,Y⟩:=h;exact⟨⟨e,m,o,z,A,D,F,G,d.heap I,J.fr d,K.fr d,k3.fr d,L.fr d,M.fr d,⟨O,Q.fr d,R.fr d⟩,⟨U,V.fr d,X.fr d⟩⟩,Y⟩
def QU(B:iF)(n k:Nat)(d:List aq)(h:(jl B k).2=0):lP B (n+1) k d=lP B n (k+1) (d++(jl B k).1):=by rw[lP,af h]
def QV(B:iF)(n k:Nat)(d:List aq)(h:¬(jl B k).2=0):lP B (n+1) k d=([],(jl B k).2):=by rw[lP,ae h]
def AH(l:List aq)(h:mE l=true):l.length<=20000/\(∀r∈l,r.text.length<=100000/\r.source.length<=100000)/\bS (λr:TS=>r.text.length+r.source.length) (l.map aq.ts)<=1048576:=by
 unfold mE at h;rw[fL,fL,en,en,pE]at h;obtain⟨⟨d,e⟩,m⟩:=h;refine⟨d,λr z=>?_,?_⟩;·have o:=e r z;unfold i9 at o;simp at o;omega
 ·refine ay ?_ m;clear d e m
  induction l with
  | nil=>exact al _
  | cons r l A=>simp only[bS,dD,gQ]at A ⊢;have:r.ts.text.length+r.ts.source.length<=eT r:=(by unfold eT aq.ts;simp;omega);omega
def Xo(g base:Nat)(B:iF)(w:World)(hB:mh w g base B)(a4:yV B)(ht:cP w):Calls Tryz.prog 23 #[.pointer (some ⟨g,0,none⟩)] w λe w'=>∃u,e=.returned (.tuple #[u,.int .i64 ((mG B).2:Int)])/\Ow w' w.heap.size eR u (mG B).1/\Fr w w':=by
 have a5:=ad (λk W (hk:k<B.frames.length) (h:Fr w W)=>SV g base k B W (yF hB h) a4 hk (ht.fr h));have HQ:=ad (λu l W (h:ah W eR u l)=>Jz u l W h);have Z:=ad (λu l W (h:ah W eR u l) (ok:mE l=true)=>JL u l W h (AH l ok).1 (AH l ok).2.1 (AH l ok).2.2);obtain⟨⟨cv,sv,tv,lv,xv,yv,fv,av,hG,_,_,_,_,a7,⟨qs,aC,ba⟩,⟨ps,bR,bT⟩⟩,_⟩:=hB;have ca:ps.length=B.frames.length:=bT.1;have d0:=a4.nf;have ac:=ad (λW K M us O b (h:Fr w W) (k1:ah W eS K us) (k2:cO W oV eJ M O b)=>Xe xv yv K M B.terms us qs O B.lists b W (a7.see.fr h) (cO.fr ⟨aC.see,ba.1,λi h h'=>(ba.2 i h h').see⟩ h) k1 k2);have bd:=ad (QU B);have bf:=ad (QV B);have cc:Hid (∀k d,lP B 0 k d=(d,0)):=λ_ _=>rfl;have bk:=ad (S3 B);have cf:Hid (lQ B=lP B B.frames.length 0 []/\True):=⟨rfl,trivial⟩;have HX:Hid (mG B=if(lQ B).2=0 then(if mE (lQ B).1=true then(if qV B (lQ B).1=true then((lQ B).1,0)else([],15))else([],6))else([],(lQ B).2)):=rfl;have ch:Hid (∀l,qV B l=(decide (B.terms=dy (l.map aq.ts)) && decide (B.lists=fH (l.map aq.ts)))):=λ_=>rfl;obtain⟨xa,xc,rfl⟩:=a7.shape';obtain⟨ya,yc,rfl⟩:=aC.shape';obtain⟨fa,fc,rfl⟩:=bR.shape';have x8:=ag hG 8 rfl;have x6:=ag hG 6 rfl;have x7:=ag hG 7 rfl;rw[ca]at x8;clear hG a7 aC ba bR bT a4 ht ca;generalize B.frames.length=n,lQ B=GG,mG B=X at *;go_in;go_wp2;go_loopw [16,4] (λkv ov wr=>∃(k:Nat) (d:List aq),k<=n/\kv=N k/\Ow wr w.heap.size eR ov d/\d.length<=k*32768/\Hid (GG=lP B (n-k) k d/\True)/\Fr w wr) (λkv _ _=>n-(intOf kv).toNat);case atStart=>exact⟨0,[],ar _,rfl,Ow.nil,ar _,⟨cf.out.1,trivial⟩,Fr.refl _⟩
 case round=>
  clear cf x8;obtain⟨k,d,hk,rfl,F,d3,U,V⟩:=hrel;by_cases cE:k<n
  ·have bv:=ad (a5.out k wr cE V);have i1:(k:Int)<n:=ω;have cG:=bk.out k;have ak:Hid ((jl B k).2=0->GG=lP B (n-(k+1)) (k+1) (d++(jl B k).1)/\True):=λA=>(by refine⟨?_,trivial⟩;rw[U.out.1,show n-k=(n-(k+1))+1 by omega,bd.out _ _ _ A]);have ap:Hid (¬(jl B k).2=0->GG=([],(jl B k).2)/\True):=λA=>(by refine⟨?_,trivial⟩;rw[U.out.1,show n-k=(n-(k+1))+1 by omega,bf.out _ _ _ A]);clear a5 bd bf U bk ac Z;generalize jl B k=L at *;obtain⟨L1,le⟩:=L;simp only at bv cG ak ap;go_wp2_with fail;apply bv.z;rintro e m ⟨u,rfl,hU,G⟩;obtain⟨pu,zu,rfl⟩:=hU.shape';have a0:=F.fr G;have D:=V.trans G;have cm:=D.size;clear bv F V;by_cases A:le=0
   ·have b0:((le:Nat):Int)=0:=ω;have a1:=ad (ak.out A);rw[b0];clear A b0 ak ap;obtain⟨po,zo,rfl⟩:=a0.shape';have o:k*32768<=20000*32768:=bQ _ ω;go_wp2_with (at_builtin;refine iJ eR rfl (.tmp 28) (.tmp 29) 24 rfl Tryz.underlying24 w.heap.size rfl a0 _ _ rfl hU.see ω cm ?_);intro v' w4 cq;have cN:Fr w w4:=cq.below a0 D (al _) cm;go_wp2;go_roundw;case rel=>exact⟨k+1,d++L1,ω,γ,cq.own,by rw[am];omega,a1.out,cN⟩
    case measure=>exact μ
   ·have b0:¬((le:Nat):Int)=0:=ω;have a1:=ad (ap.out A);have I:Hid (X=([],le)):=(by show _=_;rw[HX.out,a1.out.1,ae (show ¬(([]:List aq),le).2=0 from A)]);clear A HX a1 a0 hU ak ap;go_wp2;go_ret2;rw[I.out];exact⟨_,rfl,Ow.nil,D⟩
  ·obtain rfl:k=n:=ω;have i1:¬(k:Int)<k:=ω;have cs:Hid (GG=(d,0)/\True):=(by refine⟨?_,trivial⟩;rw[U.out.1,fY,cc.out]);have a2:Hid (X=if mE d=true then(if qV B d=true then(d,0)else([],15))else([],6)):=ad (by rw[HX.out,cs.out.1,af (show(d,0).2=0 from rfl)]);have Y:=ad (HQ.out _ d wr F.see);clear a5 bd bf U HX cs cc HQ bk
   cases Q:mE d with
   | false=>have I:=ad (a2.out.trans (ae (by rw[Q];simp)));rw[Q]at Y;clear a2 Z ac;obtain⟨po,zo,rfl⟩:=F.shape';go_wp2_with fail;apply Y.z;rintro e m ⟨rfl,G⟩;go_wp2;go_ret2;rw[I.out];exact⟨_,rfl,Ow.nil,V.trans G⟩
   | true=>
    have I:=ad (a2.out.trans (af Q));rw[Q]at Y;have ct:=ad (λW (h:Fr wr W)=>Z.out _ d W (F.see.fr h) Q);have cu:=ad (ch.out d);have HO:=ad F;obtain⟨po,zo,rfl⟩:=F.shape';clear a2 Z F Q ch;go_wp2_with fail;apply Y.z;rintro e m ⟨rfl,G⟩;have D:=V.trans G;have y6:=D.cell x6;have y7:=D.cell x7;have c4:=ad (ct.out m.drew (G.trans (Fr.refl m).drew));have cR:=ad (HO.out.fr G);have a3:Hid (∀W K M O,Fr m W->ah W eS K (dy (d.map aq.ts))->cO W oV eJ M O (fH (d.map aq.ts))->Calls Tryz.prog 52 #[.agg #[.slice xa B.terms.length xc,.slice ya qs.length yc],.agg #[K,M]] W λe w'=>e=.returned (.bool (qV B d))/\Fr W w'):=λW K M O h k1 k2=>(by have h9:=ac.out W K M _ O _ (D.trans h) k1 k2;rw[<- cu.out]at h9;exact h9);clear Y ct ac x6 x7 HO cu;generalize fH (d.map aq.ts)=IL,dy (d.map aq.ts)=IT at *
    cases R:qV B d with
    | true=>
     have b1:=ad (I.out.trans (af R));rw[R]at a3;clear I R;go_wp2_with fail
     go_region_held3 (λW => W.cell? ⟨g, 6, none⟩ = some (.slice xa B.terms.length xc) ∧ W.cell? ⟨g, 7, none⟩ = some (.slice ya qs.length yc))
      (first | exact o | go_keep)
      ((first
        | (go_at_call 39; refine c4.out.mono ?_; rintro e w5 ⟨b3, b4, b5, rfl, b6, b7, z⟩
           have o := And.intro (z.cell (show m.drew.cell? _ = _ from y6)) (z.cell (show m.drew.cell? _ = _ from y7))
           have b8 := ad (a3.out w5 b3 b4 b5 ((Fr.refl m).drew.trans z) b6 b7))
        | (go_at_call 52; refine b8.out.mono ?_; rintro e w6 ⟨rfl, J⟩
           have o := And.intro (J.cell o.1) (J.cell o.2))))
     go_wp2;go_ret2;rw[b1.out];exact⟨_,rfl,cR.out.fr ((Fr.refl m).drew.trans (z.trans J)),D.trans ((Fr.refl m).drew.trans (z.trans J))⟩
    | false=>
     have b1:=ad (I.out.trans (ae (by rw[R];simp)));rw[R]at a3;clear I R;go_wp2_with fail
     go_region_held3 (λW => W.cell? ⟨g, 6, none⟩ = some (.slice xa B.terms.length xc) ∧ W.cell? ⟨g, 7, none⟩ = some (.slice ya qs.length yc))
      (first | exact o | go_keep)
      ((first
        | (go_at_call 39; refine c4.out.mono ?_; rintro e w5 ⟨b3, b4, b5, rfl, b6, b7, z⟩
           have o := And.intro (z.cell (show m.drew.cell? _ = _ from y6)) (z.cell (show m.drew.cell? _ = _ from y7))
           have b8 := ad (a3.out w5 b3 b4 b5 ((Fr.refl m).drew.trans z) b6 b7))
        | (go_at_call 52; refine b8.out.mono ?_; rintro e w6 ⟨rfl, J⟩
           have o := And.intro (J.cell o.1) (J.cell o.2))))
     go_wp2;go_ret2;rw[b1.out];exact⟨_,rfl,Ow.nil,D.trans ((Fr.refl m).drew.trans (z.trans J))⟩
def Vi{w:World}{q base A R:Nat}{B:iF}{F:Array Value}(D:Array Value)(h:mh w q base B)(d:w.heap[R]?=some (.cells F 23 (0,0)))(m:A<=base):mh (w.setRow R D) q A B:=by
 obtain⟨⟨G,I,J,K,L,M,O,Q,z,U,V,k3,X,Y,⟨Z,k6,k7⟩,⟨ps,k8,k9⟩⟩,ap⟩:=h;have o:=dl w R D;have a0:q≠R:=by intro e;rw[e,d]at z;have a1:=jU z;injection a1 with _ k01;exact absurd k01 δ
 exact ⟨⟨G, I, J, K, L, M, O, Q, o.heap z a0, eY (U.rebase m) d (by decide) o, eY (V.rebase m) d (by decide) o, eY (k3.rebase m) d (by decide) o, eY (X.rebase m) d (by decide) o, eY (Y.rebase m) d (by decide) o,
   ⟨Z, eY (k6.rebase m) d δ o, qO (k7.rebase m) d δ o⟩, ⟨ps, eY (k8.rebase m) d δ o, qO (k9.rebase m) d δ o⟩⟩, ay m ap⟩
def uX(e:Nat)(o:dV):dV:=if e=0 then o else⟨0,false,0,0,0,0⟩
def Ao{P:Program}{F:Func}{p q r s o:Tmp}{e:TypeId}(h:F.results=#[.cell p e,.tmp q,.tmp r,.tmp s,.tmp o])(tmps:Array Value)(w:World)(g:Nat)(t:TypeId)(m:Array Value)(G:Nat × Nat)(d:TypeDesc)(z A v3 D:Value)
  (hp:tmps.getD p undef=.pointer (some ⟨g,0,none⟩)) (hq:tmps.getD q undef=z) (hr:tmps.getD r undef=A) (hs:tmps.getD s undef=v3) (ht:tmps.getD o undef=D) (hg:w.heap[g]?=some (.cells m t G))
  (hu:P.underlying e=some d) (hd:(match d with | .struct _ | .array _ _=>true | _=>false)=true) (hi:(P.info? e).map (·.size)=some m.size) :
  (results F tmps).run P w=.ok (.tuple #[.agg m,z,A,v3,D]) w:=by
 have I:tmps[p]?.getD undef=.pointer (some ⟨g,0,none⟩):=by simpa using hp
 have J:tmps[q]?.getD undef=z:=by simpa using hq
 have K:tmps[r]?.getD undef=A:=by simpa using hr
 have L:tmps[s]?.getD undef=v3:=by simpa using hs
 have M:tmps[o]?.getD undef=D:=by simpa using ht
 simp[results,h,I,J,K,L,M,asAddr,vY w g t e m G d hg hu hd hi]
def zX(W:World)(z:Nat)(d e h v3 m o:Value):World:=(((((W.setCell ⟨z,0,none⟩ d).setCell ⟨z,1,none⟩ e).setCell ⟨z,2,none⟩ h).setCell ⟨z,3,none⟩ v3).setCell ⟨z,4,none⟩ m).setCell ⟨z,5,none⟩ o
def MU{T:TypeId}{W:World}{z:Nat}{R O I G F A:Value}(d e m v3 o D:Value)(h:W.heap[z]?=some (.cells #[R,O,I,G,F,A] T (0,0))):(zX W z d e m v3 o D).heap[z]?=some (.cells #[d,e,m,v3,o,D] T (0,0))/\ai (λk=>k=z) W (zX W z d e m v3 o D):=by
 unfold zX;have U:(W.setCell ⟨z,0,none⟩ d).heap[z]?=some (.cells #[d,O,I,G,F,A] T (0,0)):=aJ h 0 _;have V:=a9 W ⟨z,0,none⟩ d;generalize W.setCell ⟨z,0,none⟩ d=J at *;have X:(J.setCell ⟨z,1,none⟩ e).heap[z]?=some (.cells #[d,e,I,G,F,A] T (0,0)):=aJ U 1 _;have c2:=a9 J ⟨z,1,none⟩ e;generalize J.setCell ⟨z,1,none⟩ e=K at *;have Y:(K.setCell ⟨z,2,none⟩ m).heap[z]?=some (.cells #[d,e,m,G,F,A] T (0,0)):=aJ X 2 _;have Z:=a9 K ⟨z,2,none⟩ m;generalize K.setCell ⟨z,2,none⟩ m=L at *;have h4:(L.setCell ⟨z,3,none⟩ v3).heap[z]?=some (.cells #[d,e,m,v3,F,A] T (0,0)):=aJ Y 3 _;have c4:=a9 L ⟨z,3,none⟩ v3;generalize L.setCell ⟨z,3,none⟩ v3=M at *;have h5:(M.setCell ⟨z,4,none⟩ o).heap[z]?=some (.cells #[d,e,m,v3,o,A] T (0,0)):=aJ h4 4 _;have c5:=a9 M ⟨z,4,none⟩ o;generalize M.setCell ⟨z,4,none⟩ o=Q at *;have h6:(Q.setCell ⟨z,5,none⟩ D).heap[z]?=some (.cells #[d,e,m,v3,o,D] T (0,0)):=aJ h5 5 _;have c6:=a9 Q ⟨z,5,none⟩ D;exact⟨h6,(((((V.trans c2 λ_ _ h=>h).trans Z λ_ _ h=>h).trans c4 λ_ _ h=>h).trans c5 λ_ _ h=>h).trans c6 λ_ _ h=>h)⟩
abbrev xK(o:dV):Array Value:=#[.int .i64 o.b,.bool o.plain,.int .i64 o.bu,.int .i64 o.d,.int .i64 o.p,.int .i64 o.c]
def Yg(b:Z0):List aq:=if De b=0 then(mG (zR b)).1 else []
def Yh(b:Z0):Nat:=if De b=0 then(zR b).counts.length else 0
def qG(b:Z0):List aq:=if jJ b=0 then(mG (iy b)).1 else []
def wW(b:Z0):Nat:=if jJ b=0 then(iy b).counts.length else 0
def sY(b:Z0):Nat:=if jJ b=0 then(bi b).2.2 else 0
def P5(b:Z0)(hF:so b)(h:fd b=0):yV (iy b):=by
 have d:fd b=if(bi b).1=0 then jO (dt (an b)) (bi b).2.1 else(bi b).1:=rfl;rw[h]at d;split at d;·rename_i e;obtain⟨_,m,_,_⟩:=BL b e;exact P8 (dt (an b)) (bi b).2.1 ω d.symm
 ·rename_i e;exact absurd d.symm e
def Jm(v:Value)(b:Z0)(w:World)(hs:ah w eB v b)(hF:so b)(ht:cP w):Calls Tryz.prog 10 #[v] w λe w'=>∃u,e=.returned (.tuple #[fq (uX (jJ b) (dt (an b))),u,N (wW b),N (sY b),.int .i64 (jJ b:Int)])/\Ow w' w.heap.size eR u (qG b)/\Fr w w':=by
 have bL:=ad (λW (h:Fr w W)=>(show Calls Tryz.prog 22 #[v] W λe w'=>∃z,e=.returned (.tuple #[fq (uX (fd b) (dt (an b))),z,N (pP b),.int .i64 (fd b:Int)])/\(fd b=0->∃g,z=.pointer (some ⟨g,0,none⟩)/\mh w' g W.heap.size (iy b))/\(¬fd b=0->z=.pointer none)/\Fr W w' from Wl v b W (hs.fr h) hF (ht.fr h)));have a4:(Tryz.prog.info? 23).map (·.size)=some aY.size:=by kernel_rfl
 have bn:aY.all (·.oneCell')=true:=by rw[iI];rfl
 have bs:(w.alloc (.cells aY 23)).heap[w.heap.size]?=some (.cells aY 23 (0,0)):=aB _ _ _ rfl;have a5:Fr w (w.alloc (.cells aY 23)):=(Fr.refl w).alloc _;have ba:Hid (jJ b=if fd b=0 then(mG (iy b)).2 else fd b):=rfl;have V:Hid (qG b=if jJ b=0 then(mG (iy b)).1 else []):=rfl;have Y:Hid (sY b=if jJ b=0 then(bi b).2.2 else 0):=rfl;have Z:Hid (wW b=if jJ b=0 then(iy b).counts.length else 0):=rfl;have bb:Hid (∀e,¬e=0->fq (uX e (dt (an b)))=.agg aY):=λe h=>by unfold uX;rw[ae h]
 have bu:Hid (fq (uX 0 (dt (an b)))=.agg (xK (dt (an b)))):=rfl;have bx:=ad (λ(h:fd b=0)=>P5 b hF h);have HT:=ad ht;obtain⟨a0,bT,rfl,_⟩:=hs.shape;have a6:=ad (bL.out _ a5);clear hs ht bL hF;by_cases hX:fd b=0
 ·have bc:=bx.out hX;have bd:=ad (ba.out.trans (af hX));have ca:pP b=(bi b).2.2:=(by unfold pP;rw [af hX]);rw [hX,bu.out,ca]at a6;have bf:Hid (Calls Tryz.prog 22 #[.slice a0 b.length bT] (w.alloc (.cells aY 23)) fun e w'=>∃ g,e=.returned (.tuple #[.agg (xK (dt (an b))),.pointer (some ⟨g,0,none⟩),N (bi b).2.2,.int .i64 0])/\mh w' g (w.alloc (.cells aY 23)).heap.size (iy b)/\Fr (w.alloc (.cells aY 23)) w'):=a6.out.mono fun e w' h=>(by obtain⟨z,h1,h2,_,h3⟩:=h;obtain⟨g,rfl,h4⟩:=h2 rfl;exact⟨g,h1,h4,h3⟩);have cu:w.heap.size<=(w.alloc (.cells aY 23)).heap.size:=a5.size;have cb:=ad (fun g base W (h:mh W g base (iy b)) (hf:Fr w W)=>Xo g base (iy b) W h bc (HT.out.fr hf));have b1 := ad (fun g base W (h : mh W g base (iy b)) => (show Calls Tryz.prog 24 #[.pointer (some ⟨g, 0, none⟩)] W fun e w' => ∃ v, e = .returned v ∧ Ow w' W.heap.size eJ v (iy b).counts ∧ Fr W w' from by
    obtain ⟨⟨cv, sv, tv, lv, xv, yv, fv, av, k0, k1, _⟩, _⟩ := h
    exact XR g (iy b).counts W _ _ _ _ _ _ _ _ _ _ k0 k1.see (by have := bc.fr; have := bc.nf; omega)))
  have c4:(xK (dt (an b))).all (·.oneCell')=true:=(by rw[iI];rfl);have cc:(Tryz.prog.info? 23).map (·.size)=some (xK (dt (an b))).size:=(by kernel_rfl);clear a6 bx ba hX bc ca;generalize iy b=BD,wW b=TK,qG b=TL,jJ b=TE,sY b=TB,(bi b).2.2=BK at *;generalize dt (an b)=OO,mG BD=F at *;obtain⟨G,I,J,K,op,L⟩:=OO;generalize ch:w.alloc (.cells aY 23)=W0 at *;go_in;go_upto_region 1 with fail;go_wp2_with fail;apply bf.z;rintro e d ⟨g,rfl,cj,aa⟩;have ab:=aa.heap bs;have M:=a5.trans aa;have ac:(d.alloc (.cells aY 23)).heap[d.heap.size]?=some (.cells aY 23 (0,0)):=aB _ _ _ rfl;have D:Fr d (d.alloc (.cells aY 23)):=(Fr.refl d).alloc _;have ck:=yF cj D;have b2:=Vi #[.int .i64 G,.bool I,.int .i64 J,.int .i64 K,.int .i64 op,.int .i64 L] ck ac cu;have cl:=iq (d.alloc (.cells aY 23)) d.heap.size aY #[.int .i64 G,.bool I,.int .i64 J,.int .i64 K,.int .i64 op,.int .i64 L] 23 (0,0) ac;have aj:=dl (d.alloc (.cells aY 23)) d.heap.size #[.int .i64 G,.bool I,.int .i64 J,.int .i64 K,.int .i64 op,.int .i64 L];have Q:Fr w ((d.alloc (.cells aY 23)).setRow d.heap.size #[.int .i64 G,.bool I,.int .i64 J,.int .i64 K,.int .i64 op,.int .i64 L]):=ai.below (M.trans D) aj (M.trans D).size (λk R=>by have:=M.size;have e:k=d.heap.size:=R;omega);have c6:w.heap.size<d.heap.size:=(aR.1 (show d.heap[w.heap.size]?=_ from ab)).1;have a7:=aj.heap (D.heap ab) (λe=>by have e:w.heap.size=d.heap.size:=e;omega);clear bf cj ck D aj bs ab a5 aa M ch;go_wp2_with (first | (refine fz rfl 23 (.tmp 7) (.tmp 15) rfl d.heap.size #[.int .i64 G,.bool I,.int .i64 J,.int .i64 K,.int .i64 op,.int .i64 L] rfl rfl 23 _ ac cc rfl c4 ?_));generalize d6:d.heap.size=R6 at *;generalize (d.alloc (.cells aY 23)).setRow R6 #[.int .i64 G,.bool I,.int .i64 J,.int .i64 K,.int .i64 op,.int .i64 L]=w3 at *;have cm:=ad (cb.out g _ w3 b2 Q);clear cb ac;apply cm.z;rintro e w4 ⟨u,rfl,hU,aC⟩;obtain⟨pu,zu,rfl⟩:=hU.shape';have b4:=yF b2 aC;have b5:=Q.trans aC;have ak:=aC.heap cl;have b6:=aC.heap a7;have b7:=hU.rebase Q.size;clear cm b2 Q cl a7 hU aC;by_cases U:F.2=0
  ·have m:Hid (TE=0):=bd.out.trans U;have ap:Hid (TL=F.1):=ad (by rw[V.out,af m.out]);have a1:Hid (TK=BD.counts.length):=ad (by rw[Z.out,af m.out]);have a2:Hid (TB=BK):=ad (by rw[Y.out,af m.out]);have j1:((F.2:Nat):Int)=0:=ω;rw[j1];have HU:=ad b7;have cF:=ad (b1.out g _ w4.drew (yF b4 (Fr.refl w4).drew));clear bd V Z Y U j1 b1 b4 b7;have e0:=ag ak 0 rfl;have e1:=ag ak 1 rfl;have e2:=ag ak 2 rfl;have e3:=ag ak 3 rfl;have e4:=ag ak 4 rfl;have e5:=ag ak 5 rfl;go_upto_region 7 with fail
   go_region_with (go_at_call 24; apply cF.z; rintro e w5 ⟨bv, rfl, di, O⟩
                   obtain ⟨p5, z5, rfl⟩ := di.shape'
                   have f0 := O.cell (show w4.drew.cell? _ = _ from e0)
                   have f1 := O.cell (show w4.drew.cell? _ = _ from e1)
                   have f2 := O.cell (show w4.drew.cell? _ = _ from e2)
                   have f3 := O.cell (show w4.drew.cell? _ = _ from e3)
                   have f4 := O.cell (show w4.drew.cell? _ = _ from e4)
                   have f5 := O.cell (show w4.drew.cell? _ = _ from e5)
                   have o := O.heap (show w4.drew.heap[w.heap.size]? = _ from b6)
                   have t0 := ag o 0 rfl
                   have t1 := ag o 1 rfl
                   have t2 := ag o 2 rfl
                   have t3 := ag o 3 rfl
                   have t4 := ag o 4 rfl
                   have t5 := ag o 5 rfl
                   have z0 := a8 o 0
                   have z1 := a8 o 1
                   have z2 := a8 o 2
                   have z3 := a8 o 3
                   have z4 := a8 o 4
                   have fl := a8 o 5)
   all_goals have hS:=MU (T:=23) (.int .i64 G) (.bool I) (.int .i64 J) (.int .i64 K) (.int .i64 op) (.int .i64 L) o
   all_goals have cn:Fr w4 w5:=(Fr.refl w4).drew.trans O
   all_goals have cp:=b5.trans cn
   all_goals go_wp2_with fail
   all_goals(try simp only[Exit.inBlock,Exit.then])
   all_goals refine bF (v:=.tuple #[.agg #[.int .i64 G,.bool I,.int .i64 J,.int .i64 K,.int .i64 op,.int .i64 L],.slice pu F.1.length zu,N BD.counts.length,N BK,.int .i64 0]) (Ao Tryz.results10 _ _ w.heap.size 23 _ (0,0) _ _ _ _ _ rfl rfl rfl rfl rfl hS.1 Tryz.underlying23 rfl cc) rfl ?_
   all_goals rw[m.out,ap.out,a1.out,a2.out,bu.out]
   all_goals exact⟨_,rfl,eY (HU.out.fr cn) o δ hS.2,ai.below cp hS.2 cp.size (λk R=>by rw[show k=w.heap.size from R];exact al _)⟩
  ·have HN:=ad U;have m:Hid (TE=F.2):=bd.out;have ap:Hid (TL=[]):=(by show _=_;rw[V.out,ae (by rw[m.out];exact U)]);have a1:Hid (TK=0):=(by show _=_;rw[Z.out,ae (by rw[m.out];exact U)]);have a2:Hid (TB=0):=(by show _=_;rw[Y.out,ae (by rw[m.out];exact U)]);have j1:¬((F.2:Nat):Int)=0:=ω;have j2:(((F.2:Nat):Int) != 0)=true:=(by simpa using j1);have hG:=iq w4 w.heap.size aY aY 23 (0,0) b6;have bB:Fr w (w4.setRow w.heap.size aY):=ai.below b5 (dl _ _ _) b5.size (λk R=>by omega);clear bd V Z Y U b1 b7 b4;go_wp2_with (first | (refine fz rfl 23 (.tmp 2) (.tmp 30) rfl w.heap.size aY rfl rfl 23 _ b6 a4 rfl bn ?_));go_wp2_with fail;(try simp only[Exit.inBlock,Exit.then]);refine bF (v:=.tuple #[.agg aY,.slice none 0 0,.int .i64 0,.int .i64 0,.int .i64 (F.2:Int)]) (Ao Tryz.results10 _ _ w.heap.size 23 _ (0,0) _ _ _ _ _ rfl rfl rfl rfl rfl hG Tryz.underlying23 rfl a4) rfl ?_;rw[m.out,ap.out,a1.out,a2.out,bb.out _ HN.out];exact⟨_,rfl,Ow.nil,bB⟩
 ·have m:Hid (jJ b=fd b):=ba.out.trans (ae hX);have HN:=ad hX;have ap:Hid (qG b=[]):=(by show _=_;rw[V.out,ae (by rw[m.out];exact hX)]);have a1:Hid (wW b=0):=(by show _=_;rw[Z.out,ae (by rw[m.out];exact hX)]);have a2:Hid (sY b=0):=(by show _=_;rw[Y.out,ae (by rw[m.out];exact hX)]);have bf:Hid (Calls Tryz.prog 22 #[.slice a0 b.length bT] (w.alloc (.cells aY 23)) λe w'=>∃z,e=.returned (.tuple #[.agg aY,z,N (pP b),.int .i64 (fd b:Int)])/\Fr (w.alloc (.cells aY 23)) w'):=a6.out.mono λe w' h=>(by obtain⟨z,h1,_,_,h3⟩:=h;rw[bb.out _ hX]at h1;exact⟨z,h1,h3⟩);rw[m.out,ap.out,a1.out,a2.out,bb.out _ hX];clear a6 bx ba hX V Z Y m ap a1 a2 bu bb;generalize pP b=OK,fd b=X at *;have j1:¬((X:Nat):Int)=0:=(by have:=HN.out;omega);have j2:(((X:Nat):Int) != 0)=true:=(by simpa using j1);generalize ch:w.alloc (.cells aY 23)=W0 at *;go_in;go_upto_region 1 with fail;go_wp2_with fail;apply bf.z;rintro e d ⟨z,rfl,aa⟩;have ab:=aa.heap bs;have M:=a5.trans aa;have ac:(d.alloc (.cells aY 23)).heap[d.heap.size]?=some (.cells aY 23 (0,0)):=aB _ _ _ rfl;have D:Fr d (d.alloc (.cells aY 23)):=(Fr.refl d).alloc _;have aj:=dl (d.alloc (.cells aY 23)) d.heap.size aY;have Q:Fr w ((d.alloc (.cells aY 23)).setRow d.heap.size aY):=ai.below (M.trans D) aj (M.trans D).size (λk R=>by have:=M.size;have e:k=d.heap.size:=R;omega);have c6:w.heap.size<d.heap.size:=(aR.1 (show d.heap[w.heap.size]?=_ from ab)).1;have a7:=aj.heap (D.heap ab) (λe=>by have e:w.heap.size=d.heap.size:=e;omega);have hG:=iq _ w.heap.size aY aY 23 (0,0) a7;have bB:Fr w (((d.alloc (.cells aY 23)).setRow d.heap.size aY).setRow w.heap.size aY):=ai.below Q (dl _ _ _) Q.size (λk R=>by omega);go_wp2_with (first | (refine fz rfl 23 (.tmp 7) (.tmp 15) rfl d.heap.size aY rfl rfl 23 _ ac a4 rfl bn ?_) | (refine fz rfl 23 (.tmp 2) (.tmp 21) rfl w.heap.size aY rfl rfl 23 _ a7 a4 rfl bn ?_));go_wp2_with fail;(try simp only[Exit.inBlock,Exit.then]);refine bF (v:=.tuple #[.agg aY,.slice none 0 0,.int .i64 0,.int .i64 0,.int .i64 (X:Int)]) (Ao Tryz.results10 _ _ w.heap.size 23 _ (0,0) _ _ _ _ _ rfl rfl rfl rfl rfl hG Tryz.underlying23 rfl a4) rfl ?_;exact⟨_,rfl,Ow.nil,bB⟩
def Dl(h e d q c:Nat)(p:Bool)(l:List aq)(F:ew ⟨(h:Int),p,(e:Int),(d:Int),(q:Int),(c:Int)⟩=true)(z:gA l)(M:aG d c (bt h e p l).length*((d+q)*(c+4))<=16777216):fd (bO h p e d q c (bt h e p l)) = 0 ∧ tx (bO h p e d q c (bt h e p l)) = ⟨(h : Int), p, (e : Int), (d : Int), (q : Int), (c : Int)⟩ ∧ jJ (bO h p e d q c (bt h e p l)) = 0 ∧ qG (bO h p e d q c (bt h e p l)) = l ∧ sY (bO h p e d q c (bt h e p l)) = 0 ∧
   nW (bO h p e d q c (bt h e p l))=(0,bO h p e d q c (bt h e p l),0)/\gm (bO h p e d q c (bt h e p l))=true:=by
 have G:=(kM _).1 F;simp only at G;obtain⟨O,Q,k3,k4,k5,k6,k7,k8,R,U⟩:=G;have V:jN ⟨(h:Int),p,(e:Int),(d:Int),(q:Int),(c:Int)⟩=true:=(xJ _).2 ⟨O,Q,R,U⟩;have bd:=sf h e p l ω ω z;obtain⟨I,o,J⟩:=vM h e d q c p (bt h e p l) F ω M;obtain⟨a1,a2,a3,m,X,a6⟩:=ud h e d q c p (bt h e p l) ω ω ω ω ω ω;obtain⟨Y,b2,Z,b4,b5,b6,b7,b8⟩:=vz h e d q c (bt h e p l).length p ω ω ω ω ω ω;have hb:=I6 h e p l ω ω z;have K:=QC h e p l ω ω z;have A:fd (bO h p e d q c (bt h e p l))=0:=by unfold fd;rw[o,af rfl,I];unfold jO;rw[af V];show pQ ((e:Int)).toNat (bt h e p l)=0;rw[zn];exact hb.1
 have L:iy (bO h p e d q c (bt h e p l))=Fk.iz e (bt h e p l):=by unfold iy;rw[o,J]
 have D:jJ (bO h p e d q c (bt h e p l))=0:=by unfold jJ;rw[A,af rfl,L,K]
 refine⟨A,?_,D,?_,?_,?_,X⟩;·unfold tx;rw[A,af rfl,I]
 ·unfold qG;rw[D,af rfl,L,K]
 ·unfold sY;rw[D,af rfl,o]
 ·have hP:hP (an (bO h p e d q c (bt h e p l)))=p:=(by rw[m];unfold Go.Proofs.YtndbpldeabnkbaaGreatDoor.hP;rw[Y];cases p <;> rfl);have hS:jz (an (bO h p e d q c (bt h e p l)))=h:=(by rw[m,b6]);have ap:hD (an (bO h p e d q c (bt h e p l)))=d:=(by rw[m,Z]);have av:hQ (an (bO h p e d q c (bt h e p l)))=q:=(by rw[m,b4]);have a0:hC (an (bO h p e d q c (bt h e p l)))=c:=(by rw[m,b5]);unfold nW;rw[o,af rfl,hP,hS,ap,av,a0,J]
def de(A:Z0)(c i:Nat):Z0:=(A.drop (21+i*(c+4))).take (c+4)
def lV(A B:Z0)(c K:Nat):Nat->Nat
 | 0=>0
 | i+1=>(if i%K=0 then 0 else lV A B c K i)+if de A c i=de B c i then 0 else 1
structure ue (c q K:Nat) (A B:Z0):Prop where
 len:B.length=A.length
 head:B.take 21=A.take 21\/go (B.take 21)=false
 one:B.take 21=A.take 21\/B.drop (B.length-21)=A.drop (A.length-21)
 chunk:∀i,21+(i+1)*(c+4)<=A.length-21->de A c i=de B c i\/bz (de B c i)=false
 cnt:∀i,21+(i+1)*(c+4)<=A.length-21->lV A B c K (i+1)<=q
def G4(B:Z0)(c a i j:Nat)(e:a+i*(c+4)=j*(c+4))(h:21+(j+1)*(c+4)<=B.length-21):bY (iQ B) c a i=de B c j:=by
 rw[be,dC]at h;unfold bY de iQ;rw[e,ru,um,lk,fI ω]
def Uv(A B:Z0)(c K s:Nat):∀r,r<=K->((List.range r).filter λi=>!decide (de A c (s*K+i)=de B c (s*K+i))).length<=lV A B c K (s*K+r):=by
 intro r
 induction r with
 | zero=>intro _;simp
 | succ r d=>
  intro o;have h:=d ω;rw[jr,sF,am,<- jq,lV];have m:((List.filter (λi=>!decide (de A c (s*K+i)=de B c (s*K+i))) [r]).length)=if de A c (s*K+r)=de B c (s*K+r)then 0 else 1:=(by rw[mX];by_cases e:de A c (s*K+r)=de B c (s*K+r) <;> simp[e]);rw[m];refine Nat.add_le_add_right ?_ _;by_cases e:r=0;·subst e;simp
  ·rw[ae (by rw[dX,Nat.mul_add_mod,nI ω];exact e)];exact h
def SP{α:Type}(p q:α->Bool)(l:List α)(h:∀x∈l,p x=true->q x=true):(l.filter p).length<=(l.filter q).length:=by
 induction l with
 | nil=>exact al _
 | cons x l d=>
  have e:=d λy m=>h y (by simp[m]);have o:=h x σ;rw[mX,mX];cases z:p x
  ·rw[ae σ];split;·rw[aL];omega
   ·exact e
  ·rw[af rfl,af (o z),aL,aL];omega
def Lj(D F d q c:Nat)(p:Bool)(b B:Z0)(R:ew ⟨(D:Int),p,(F:Int),(d:Int),(q:Int),(c:Int)⟩=true)(Z:b.length<=8388608)(hz:aG d c b.length*((d+q)*(c+4))<=16777216)(I:ue c q (d+q) (bO D p F d q c b) B):an B=an (bO D p F d q c b)/\gm B=true/\∃n,bi B=(0,b,n):=by
 have J:=(kM _).1 R;simp only at J;obtain⟨k1,k2,k3,k4,k5,k6,k7,k8,k9,bA⟩:=J;obtain⟨a1,a2,a3,O,a5,U⟩:=ud D F d q c p b ω ω ω ω ω ω;obtain⟨b1,b2,b3,b4,b5,b6,b7,b8⟩:=vz D F d q c b.length p ω ω ω ω ω ω;have hO:=(vM D F d q c p b R Z hz).1;have bb:(iQ (bO D p F d q c b)).length=aG d c b.length*((d+q)*(c+4)):=by rw[U,pV]
 rw[vy]at bb;generalize bO D p F d q c b=A at *;have G:an B=an A/\gm B=true:=by
  have Q:an B=if go (B.take 21)then B.take 21 else B.drop (B.length-21):=rfl;have K:gm B=(go (B.take 21) || go (B.drop (B.length-21))):=rfl;by_cases h:B.take 21=A.take 21;·rw[h,a2,b8]at Q K;rw[Q,K,O];exact⟨rfl,rfl⟩
  ·have z:=I.head.resolve_left h;have L:=I.one.resolve_left h;rw[z,L,a3]at Q K;rw[b8]at K;rw[Q,K,O];exact⟨rfl,rfl⟩
 refine⟨G.1,G.2,?_⟩;have bc:=I.len;have V:∀s i,s<aG d c b.length->i<d+q->21+(s*(d+q)+i+1)*(c+4)<=A.length-21:=λs i m o=>by have z:s*(d+q)+i+1<=aG d c b.length*(d+q):=(by have:=bQ (d+q) (show s+1<=aG d c b.length from m);rw[be,dC]at this;omega);have L:=bQ (c+4) z;rw[pA]at L;omega
 have M:∀s i,s<aG d c b.length->i<d+q->bY (iQ B) c (s*((d+q)*(c+4))) i=de B c (s*(d+q)+i)/\bY (iQ A) c (s*((d+q)*(c+4))) i=de A c (s*(d+q)+i):=λs i m o=>by have e:s*((d+q)*(c+4))+i*(c+4)=(s*(d+q)+i)*(c+4):=(by rw[be (s*(d+q)) i,pA]);have z:=V s i m o;exact⟨G4 B c _ i _ e (by rw[bc];exact z),G4 A c _ i _ e z⟩
 have bd:∀s,s<aG d c b.length->fE d q c (iQ B) (s*((d+q)*(c+4)))=(0,eX b c (s*(d*c)) d):=λs m=>by
  refine ME b (iQ B) d q c s _ m ω (λi o X=>?_) ?_
  ·rw[<- U,(M s i m o).1,(M s i m o).2];rw[(M s i m o).1]at X;rcases I.chunk _ (V s i m o)with h | h;·exact h.symm
   ·rw[h]at X;cases X
  ·unfold kX;rw[cy];have hK:0<d+q:=ω;have z:=I.cnt _ (V s (d+q-1) m ω);have L:=Uv A B c (d+q) s (d+q) (al _);rw[show s*(d+q)+(d+q-1)+1=s*(d+q)+(d+q) by omega]at z;refine ay (SP _ _ _ λi o Y=>?_) (ay L z);have o:=dN.1 o;have J:=xU b d q c s _ i m o;rw[<- U,(M s i m o).2]at J;rw[(M s i m o).1]at Y;have:¬de A c (s*(d+q)+i)=de B c (s*(d+q)+i):=λe=>(by rw[<- e,J,tz]at Y;cases Y);rw[br this];rfl
 obtain⟨bf,hR⟩:=Og b (iQ B) d q c ω ω ω Z hz (by rw[vy];omega) bd;have aj:gG B=(0,b,bf):=by unfold gG;rw[G.1,O,b3,b4,b5,b7];exact hR
 rw[<- G.1]at hO;exact⟨_,by rw[yE _ ω G.2 (by rw[G.1,O,b1];cases p <;> decide) (by rw[hO];exact R) (by rw[aj]),aj]⟩
def LH(e h d q c:Nat)(p:Bool)(l:List aq)(B:Z0)(m:ew ⟨(e:Int),p,(h:Int),(d:Int),(q:Int),(c:Int)⟩=true)(I:gA l)(z:aG d c (bt e h p l).length*((d+q)*(c+4))<=16777216)(M:ue c q (d+q) (bO e p h d q c (bt e h p l)) B):jJ B=0/\qG B=l/\(∃n,nW B=(0,bO e p h d q c (bt e h p l),n))/\gm B=true/\an B=an (bO e p h d q c (bt e h p l)):=by
 have O:=(kM _).1 m;simp only at O;have X:=sf e h p l ω ω I;obtain⟨Y,Z,Q,R,e5,D,J⟩:=Dl e h d q c p l m I z;obtain⟨hO,F,hU⟩:=vM e h d q c p (bt e h p l) m ω z;obtain⟨o,U,n,G⟩:=Lj e h d q c p (bt e h p l) B m ω z M;generalize bO e p h d q c (bt e h p l)=A at *;have V:fd B=fd A:=by unfold fd;rw[o,G,F]
 have K:iy B=iy A:=by unfold iy;rw[o,G,F]
 have L:jJ B=jJ A:=by unfold jJ;rw[V,K]
 refine⟨by rw[L,Q],?_,⟨n,?_⟩,U,o⟩;·rw[<- R];unfold qG;rw[L,K]
 ·unfold nW at D ⊢;rw[F,af rfl]at D;rw[G,af rfl,o];injection D with _ J;injection J with e8 _;rw[e8]
def IW(e h d q c:Nat)(p:Bool)(b:Z0)(m:e<65536)(o:h<256)(D:d<=8)(O:q<=8)(F:q<=4*d)(G:4<=c)(I:c<=100)(z:b.length<=1000000):so (bO e p h d q c b):=by
 obtain⟨_,_,_,A,_,_⟩:=ud e h d q c p b m o ω ω ω ω;obtain⟨_,_,J,K,L,_,M,_⟩:=vz e h d q c b.length p m o ω ω ω ω;have Q:=vr d q c b.length F G D I z;refine .inr ⟨?_,?_,?_⟩;·rw[A,J,K,L];exact ay (bH (show d+q<=16 by omega) (show c+4<=104 by omega)) δ
 ·rw[A,M];exact z
 ·unfold bO;simp only[am,gH,qW,pV];omega
