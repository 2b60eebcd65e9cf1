/- Lemmas. -/
import Derived.Test.YtmcaneofjlhhmaaGreatDoorM12
import Derived.Test.YtmcaneofjlhhmaaGreatDoorM18
set_option linter.all false
set_option maxHeartbeats 8000000
set_option maxRecDepth 100000
namespace Go.Fk
def C9(r d:U0)(n f a:Nat)(e:Bool)(h:n<=d.length):dO r n f a d e=(d,a,0):=by
 cases f with
 | zero=>rfl
 | succ f=>rw[dO,an h]
def C6(r d:U0)(n f a:Nat)(e:Bool)(h:d.length<n)(m:8*r.length<a+4):dO r n (f+1) a d e=([],a,1):=by
 rw[dO,ae ω,an m]
def C8(r d:U0)(n f a:Nat)(e:Bool)(h:d.length<n)(m:¬8*r.length<a+4)(o:0<aF r a 4):dO r n (f+1) a d e=dO r n f (a+4) (d++[UInt8.ofNat (aF r a 4)]) false:=by
 rw[dO,ae ω,ae m,an o]
def C5(r d:U0)(n f a:Nat)(e:Bool)(h:d.length<n)(m:¬8*r.length<a+4)(p:aF r a 4=0)(o:8*r.length<a+4+6):dO r n (f+1) a d e=([],a,1):=by
 rw[dO,ae ω,ae m,ae ω,an o]
def CA(r d:U0)(n f a:Nat)(e:Bool)(h:d.length<n)(m:¬8*r.length<a+4)(q:aF r a 4=0)(o:¬8*r.length<a+4+6)(p:e=true\/n-d.length<=aF r (a+4) 6):dO r n (f+1) a d e=([],a,7):=by
 rw[dO,ae ω,ae m,ae ω,ae o,an p]
def C7(r d:U0)(n f a:Nat)(e:Bool)(h:d.length<n)(m:¬8*r.length<a+4)(q:aF r a 4=0)(o:¬8*r.length<a+4+6)(p:¬(e=true\/n-d.length<=aF r (a+4) 6)):dO r n (f+1) a d e=dO r n f (a+4+6) (d++List.replicate (aF r (a+4) 6+1) 0) (decide (aF r (a+4) 6+1<64)):=by
 rw[dO,ae ω,ae m,ae ω,ae o,ae p]
end Go.Fk
namespace Go.Proofs
open RowKit Fk Tryz
def Fv(B base n a k:Nat)(v:Value)(l:U0)(w:World)(d:en w B base v l n a)(D:l.length<=1000000)(K:k<=64):Calls prog 295 #[.pointer (some ⟨B,0,none⟩),N k] w λe w'=>e=.returned (.tuple #[.int .u64 ((if n<a+k then 0 else Fk.aF l a k:Nat):Int),.int .i64 ((if n<a+k then 1 else 0:Nat):Int)])/\en w' B base v l n (if n<a+k then a else a+k)/\ag (λb=>b=B) w w':=by
 have F:=ad (pr B base n a l w d.f D);have ah:n<=8000000:=by have:=d.eq;omega
 by_cases h:n<a+k;·have L:=ad d;have k3:(n:Int)-a<k:=ω;go_in;go_wp2_with fail;apply F.z;rintro e p ⟨rfl,o⟩;go_wp2;go_ret2;exact⟨rfl,L.out.fr o.fr,o.fr.chg _⟩
 ·have k3:¬(n:Int)-a<k:=ω;have M:=ad (λW (O:Fr w W)=>u9 B base n a a k l W (d.f.fr O) D K d.le);obtain⟨q,G,I,ai⟩:=d;have Q:=ad I;have R:Hid (a+k<=n):=(by show _<=_;omega);have U:=G.ne_cells q δ;clear I h;go_in;go_wp2_with fail;apply F.z;rintro e p ⟨rfl,o⟩;have V:=o.fr.heap q;have c2:=af V 2 rfl;have X:=ad (λm=>M.out (p.drewN m) (o.fr.drewN m));go_wp2;go_quiet ((go_at_call 322;exact pG (X.out _)));have z:=o.fr.drewN nq;generalize p.drewN nq=Y at *;have A:=z.heap q;have d2:=af A 2 rfl;have z2:=aB A 2;have J:=ay Y ⟨B,2,none⟩ (.int .i64 ((a:Int)+k));have Z:=aI A 2 (.int .i64 ((a:Int)+k));have aa:=(G.fr z).chg J (λi hi e=>U (by rw[hi,show i=B from e]));have ac:=(z.chg _).trans J λ_ _ h=>h;go_wp2;go_ret2;exact⟨rfl,⟨Z,aa,Q.out,R.out⟩,ac⟩
def QP(B base Y a n:Nat)(v:Value)(r:U0)(w:World)(F:en w B base v r Y a)(hl:r.length<=1000000)(hn:n<=300):Calls prog 323 #[.pointer (some ⟨B,0,none⟩),N n] w λe w'=>∃u,e=.returned (.tuple #[u,.int .i64 ((aU r n a).2.2:Int)])/\Ow w' w.heap.size eB u (aU r n a).1/\ag (λb=>b=B) w w'/\((aU r n a).2.2=0->en w' B base v r Y (aU r n a).2.1/\(aU r n a).1.length=n/\df (aU r n a).1=true/\∀c∈(aU r n a).1,c.toNat<=15):=by
 have KR:=ad (λX (h:dO r n n a [] false=X) (h2:¬X.2.2=0)=>(show aU r n a=X by unfold aU;rw[h,ae h2]));have KE:=ad (λd m (h:dO r n n a [] false=(d,m,0))=>(show aU r n a=if df d then(d,m,0)else([],a,7) by unfold aU;rw[h];rfl));have ck:=F.eq;have bb:∀k,v.ownBlock=some k->k<w.heap.size:=λk h=>(F.o.lt k h).2;have b0:=ad (C9 r);have b1:=ad (C6 r);have b2:=ad (C8 r);have b3:=ad (C5 r);have b4:=ad (CA r);have b5:=ad (C7 r);have bc:=ad (λa k W h hk=>Fv B base Y a k v r W h hl hk);have bd:=ad (λa k=>jt r a k);have HI:Hid (∃(f:Nat) (d:U0),dO r n n a [] false=dO r n f a d false/\n<=f+d.length/\d=[]):=⟨n,[],rfl,σ,rfl⟩;generalize aU r n a=LR at *;generalize dO r n n a [] false=G0 at *;have cm:B<w.heap.size:=(aX.1 F.h).1;have HC:=ad F;have j1:¬(n:Int)<0:=ω
 have j2:¬(300:Int)<n:=ω
 clear F;go_in;go_wp2_with (at_make;refine rm eB rfl (.const (.int .i64 0)) (.tmp 18) 22 rfl sJ .i64 .i64 _ n rfl rfl rfl ω w.heap.size (au _) ?_);intro w1 bk bl;have a3:Fr w w1:=Fr.grown (Fr.refl w) bl (au _) (λk e=>by cases e);have bm:=HC.out.fr a3;clear bl HC;go_wp2;go_loopw [6,7] (λuv sv wr=>∃(f m:Nat) (d:U0) (q:Bool),sv=.bool q/\Hid (G0=dO r n f m d q)/\n<=f+d.length/\d.length<=n/\Hid (∀c∈d,c.toNat<=15)/\Ow wr w.heap.size eB uv d/\en wr B base v r Y m/\ag (λb=>b=B) w wr) (λuv _ _=>n-nG uv);·obtain⟨f,d,h1,h2,rfl⟩:=HI.out;exact⟨f,a,[],false,rfl,h1,h2,ax _,(λc h=>(kK h).elim),bk,bm,a3.chg _⟩
 ·
  clear bk bm a3 HI;obtain⟨f,m,d,q,rfl,Z,cq,cr,am,D,hC,R⟩:=hrel;obtain⟨p,z,rfl⟩:=D.shape';by_cases ai:d.length<n
  ·obtain⟨f,rfl⟩:∃g,f=g+1:=⟨f-1,ω⟩;have i1:(d.length:Int)<n:=ω;have L:=ad (bc.out m 4 wr hC ω);have ct:=hC.le;by_cases h4:Y<m+4;·rw[an h4,an h4,an h4]at L;have o:=ad (KR.out _ (Z.out.trans (b1.out d n f m q ai ω)) σ);clear D hC;go_wp2_with fail;apply L.z;rintro e G ⟨rfl,M,A⟩;go_wp2;go_ret2;rw[o.out];exact⟨_,rfl,Ow.nil,R.trans A λ_ _ h=>h,λh=>by cases h⟩
   ·rw[ae h4,ae h4,ae h4]at L;have hx:=bd.out m 4;by_cases h0:0<Fk.aF r m 4
    ·have o:=ad (Z.out.trans (b2.out d n f m q ai ω h0));have bG:Hid (Fk.aF r m 4<16):=hx;clear hx;generalize Fk.aF r m 4=x at *;have hx:=bG.out;have cu:IntKind.u8.wrap (x:Int)=(x:Int):=(by simp[IntKind.wrap,IntKind.bits,IntKind.signed];omega);have j3:(0:Int)<x:=ω;have bL:Hid (d.length+[UInt8.ofNat x].length<=2147483648):=(by show _<=_;simp;omega);have U:=ad D;clear D hC;go_wp2_with fail;apply L.z;rintro e G ⟨rfl,M,A⟩;have V:=U.out.chg A (U.out.nL ω);have I:=R.trans A λ_ _ h=>h;have bR:=I.size;go_wp2_with (at_builtin;refine bA eB rfl (.tmp 34) (.tmp 37) 22 rfl sJ w.heap.size rfl V [UInt8.ofNat x] _ _ _ (mo x ω) rfl rfl bL.out bR ?_);intro v4 w4 J;have a6:=M.chg J.chg' (λe=>by have:=(V.lt B e).1;omega) (λk hk e=>by have:=bb k hk;have:=(V.lt k e).1;omega);have a7:ag (λb=>b=B) w w4:=I.trans J.chg' λi hi e=>(by have:=(V.lt i e).1;omega);obtain⟨va,vc,rfl⟩:=J.own.shape';go_wp2;go_roundw;·exact⟨f,m+4,d++[UInt8.ofNat x],false,rfl,o.out,by simp;omega,by simp;omega,λc F=>(iI.1 F).elim (am.out c) (λh=>by rw[lp.1 h,lk];omega),J.own,a6,a7⟩
     ·simp[nG];omega
    ·have ab:Fk.aF r m 4=0:=ω;rw[ab]at L;have O:=ad (λW h=>bc.out (m+4) 6 W h ω);by_cases h6:Y<m+4+6;·have o:=ad (KR.out _ (Z.out.trans (b3.out d n f m q ai ω ab ω)) σ);simp only[an h6]at O;clear D hC hx ab h0;go_wp2_with fail;apply L.z;rintro e G ⟨rfl,M,A⟩;have ac:=ad (O.out G M);have I:=R.trans A λ_ _ h=>h;clear O;go_wp2_with fail;apply ac.z;rintro e w3 ⟨rfl,av,Q⟩;go_wp2;go_ret2;rw[o.out];exact⟨_,rfl,Ow.nil,I.trans Q λ_ _ h=>h,λh=>by cases h⟩
     ·simp only[ae h6]at O;have hy:=bd.out (m+4) 6;have HA:=ad (b4.out d n f m q ai ω ab ω);have aC:=ad (b5.out d n f m q ai ω ab ω);have cc:Hid (Fk.aF r (m+4) 6<64):=hy;have U:=ad D;clear D hC hx ab h0 hy;generalize Fk.aF r (m+4) 6=y at *;have hy:=cc.out;have cz:=aA ((n:Int)-d.length) ω;have c0:=aA (y:Int) ω;have c1:=cW ((y:Int)+1) ω;by_cases K:q=true\/n-d.length<=y
      ·have o:=ad (KR.out _ (Z.out.trans (HA.out K)) σ);clear HA aC;go_wp2_with fail;apply L.z;rintro e G ⟨rfl,M,A⟩;have ac:=ad (O.out G M);have I:=R.trans A λ_ _ h=>h;clear O
       cases q with
       | true=>go_wp2_with fail;apply ac.z;rintro e w3 ⟨rfl,av,Q⟩;go_wp2;go_ret2;rw[o.out];exact⟨_,rfl,Ow.nil,I.trans Q λ_ _ h=>h,λh=>by cases h⟩
       | false=>have j4:(n:Int)-d.length<=y:=(by rcases K with K | K;cases K;omega);go_wp2_with fail;apply ac.z;rintro e w3 ⟨rfl,av,Q⟩;go_wp2;go_ret2;rw[o.out];exact⟨_,rfl,Ow.nil,I.trans Q λ_ _ h=>h,λh=>by cases h⟩
      ·have o:=ad (Z.out.trans (aC.out K));obtain rfl:q=false:=(by cases q;rfl;exact absurd (.inl rfl) K);have j4:¬(n:Int)-d.length<=y:=λh=>K (.inr ω);clear HA aC K;go_wp2_with fail;apply L.z;rintro e G ⟨rfl,M,A⟩;have ac:=ad (O.out G M);have I:=R.trans A λ_ _ h=>h;have V:=U.out.chg A (U.out.nL ω);clear O;go_wp2_with fail;apply ac.z;rintro e w3 ⟨rfl,av,Q⟩;have az:=V.chg Q (V.nL ω);have bs:=I.trans Q λ_ _ h=>h;obtain⟨v4,w4,hr,J⟩:=Ix (P:=prog) eB w3 w.heap.size 22 52 22 .u64 .u64 sJ underlying52 az (y+1) ω ω bs.size;rw[show((y+1:Nat):Int)=(y:Int)+1 by omega]at hr;have a6:=av.chg J.chg' (λe=>by have:=(az.lt B e).1;omega) (λk hk e=>by have:=bb k hk;have:=(az.lt k e).1;omega);have a7:ag (λb=>b=B) w w4:=bs.trans J.chg' λi hi e=>(by have:=(az.lt i e).1;omega);obtain⟨va,vc,bu⟩:=J.own.shape';rw[aM,jF]at bu;subst bu;go_wp2_with (at_builtin;refine Lib.wpList_append_run _ rfl (.tmp 57) (.tmp 59) 22 52 rfl _ _ rfl rfl _ _ hr ?_);go_roundw;·exact⟨f,m+4+6,d++List.replicate (y+1) 0,decide (y+1<64),iG Value.bool (decide_eq_decide.2 ω),o.out,by simp;omega,by simp;omega,λc F=>(iI.1 F).elim (am.out c) (λh=>by rw[(List.mem_replicate.1 h).2];decide),J.own,a6,a7⟩
       ·simp[nG];omega
  ·have ba:d.length=n:=ω;have o:=ad (KE.out d m (Z.out.trans (b0.out d n f m q ω)));have HK:=ad (Fo _ d wr D.see ω am.out);have i2:¬(d.length:Int)<n:=ω;have U:=ad D;clear D
   cases ak:df d with
   | true=>rw[ak]at HK o;have HN:=ad ba;have ci:=ad ak;clear ba ak;go_wp2_with fail;apply HK.z;rintro e G ⟨rfl,al⟩;go_wp2;go_ret2;rw[o.out];exact⟨_,rfl,U.out.fr al,R.trans (al.chg _) λ_ _ h=>h,λ_=>⟨hC.fr al,HN.out,ci.out,am.out⟩⟩
   | false=>rw[ak]at HK o;clear ba ak;go_wp2_with fail;apply HK.z;rintro e G ⟨rfl,al⟩;go_wp2;go_ret2;rw[o.out];exact⟨_,rfl,Ow.nil,R.trans (al.chg _) λ_ _ h=>h,λh=>by cases h⟩
open Go.RowKit Go.Fk Tryz
def ye:Option Nat->Value | some s=>.tuple #[N s,.bool true] | none=>.tuple #[N 0,.bool false]
def QE(d:U0)(base g x l:Nat)(c:Nat->Value)(w:World)(h:eM w base g d d.length c)(hn:d.length<=300)(O:df d=true)(D:∀c∈d,c.toNat<=15)(m:1<=l)(Q:l<=15)(hx:x<=1000000):Calls prog 333 #[.pointer (some ⟨g,0,none⟩),.int .u64 (x:Int),N l] w λe w'=>e=.returned (ye (jz d x l))/\w'=w:=by
 have k1:w.cell? ⟨g,2+l,none⟩=some (N (fM d d.length l)):=h.arr.cell (2+l) ω (h.first l m ω);have k2:w.cell? ⟨g,18+l,none⟩=some (N (aL d l)):=h.arr.cell (18+l) ω (by rw[h.many l m ω,dP]);have G:=h.syms l m ω;obtain⟨p,z,U⟩:=G.shape';have ap:(sM d d.length l).length=aL d l:=by rw[vW d _ l (au _),dP]
 have k3:w.cell? ⟨g,34+l,none⟩=some (.slice p (sM d d.length l).length z):=h.arr.cell (34+l) ω U;rw[U]at G;obtain⟨m1,m2⟩:=D0 d O D l m Q;have I:=ad (Mf d O D x l m Q);have o:=ad (Me d O D x l m Q);have J:=ad (λi (hi:i<(sM d d.length l).length)=>G.see.cell1 (λn:Nat=>Value.int .i64 (n:Int)) rfl i hi);have a0:=mY d l;generalize sM d d.length l=L,jz d x l=R,aL d l=M,fM d d.length l=F at *;have a1:=aA (x:Int) ω;have Y:=aA ((x:Int)-F) ω;have l1:(0:Int)<=l:=ω
 have l2:(l:Int)<16:=ω
 clear h U G D;by_cases hF:F<=x
 ·by_cases V:x-F<M;·obtain⟨s,hs,W,A⟩:=I.out hF V;obtain⟨b,a5,cp,ah,Z⟩:=J.out (x-F) ω;cases ah;have aa:L[x-F]'ω=s:=(by rw[cQ ω]at W;exact lM W);rw[aa]at Z;subst A;obtain⟨q,K⟩:∃q,q=x-F:=⟨_,rfl⟩;rw[<- K]at Z V;have X:(x:Int)-F=q:=ω;rw[X]at Y;have q1:¬(q:Int)<0:=ω;have q2:¬(M:Int)<=q:=ω;have q3:(q:Int)<L.length:=ω;have q4:(0:Int)<=q:=ω;clear I o J W aa K;go_in;go_wp2;go_ret2;exact⟨rfl,rfl⟩
  ·have A:=o.out (λh=>V h.2);subst A;obtain⟨q,K⟩:∃q,q=x-F:=⟨_,rfl⟩;have X:(x:Int)-F=q:=ω;rw[X]at Y;have q1:¬(q:Int)<0:=ω;have q2:(M:Int)<=q:=ω;clear I o J K;go_in;go_wp2;go_ret2;exact⟨rfl,rfl⟩
 ·have A:=o.out (λh=>hF h.1);subst A;have q1:(x:Int)-F<0:=ω;clear I o J;go_in;go_wp2;go_ret2;exact⟨rfl,rfl⟩
def QI(m:U0)(base g y l:Nat)(c:Nat->Value)(w:World)(h:eM w base g m m.length c)(hn:m.length<=300)(V:df m=true)(O:∀c∈m,c.toNat<=15)(q:l<=15)(hy:y<=32768):Calls prog 335 #[.pointer (some ⟨g,0,none⟩),.int .u64 (y:Int),N l] w λe w'=>e=.returned (.bool (lC m y l))/\Qt w w':=by
 have az:=ad (fun k=>J5 m V O y l k);have a0:=ad (BP m V O y l);have HB:Hid (∀ k,qp m y l k=(decide (0<aL m k) && decide (y*2 ^ (k - l)<fM m m.length k+aL m k) && decide (fM m m.length k<(y+1)*2 ^ (k - l)))):=fun k=>rfl;have HC:=ad (fun k (o:1<=k) (q:k<=15)=>(⟨h.arr.cell (2+k) (by omega) (h.first k o (by omega)),h.arr.cell (18+k) (by omega) (by rw [h.many k o (by omega),dP])⟩:w.cell? ⟨g,2+k,none⟩=some (N (fM m m.length k))/\w.cell? ⟨g,18+k,none⟩=some (N (aL m k))));have HL:=ad (fun k (o:1<=k) (q:k<=15)=>D0 m V O k o q);generalize qp m y l=G,lC m y l=R at *;have a4 : Hid (∀ k, l < k → k ≤ 15 → 2 ^ (k - l) ≤ 32768 ∧ 0 < 2 ^ (k - l)) := fun k o q => ⟨by
   have : (2 : Nat)^(k-l) ≤ 2^15 := dn ω ω
   omega, Nat.pow_pos ω⟩
 have a7:=aA (y:Int) ω;have a8:=aA ((l:Int)+1) ω;clear h O;go_in;go_wp2;go_loopw [7] (λW wr=>∃k:Nat,l<k/\k<=16/\W=N k/\Hid (∀j,l<j->j<k->G j=false)/\Qt w wr) (λW _=>16-(intOf W).toNat);·exact⟨l+1,ω,ω,γ,λj o q=>absurd o ω,Qt.refl _⟩
 ·
  obtain⟨k,ab,a9,rfl,I,z⟩:=hrel;by_cases Q:k<=15
  ·obtain⟨k1,k2⟩:=HC.out k ω Q;replace k1:=z.fr.cell k1;replace k2:=z.fr.cell k2;obtain⟨m1,m2⟩:=HL.out k ω Q;obtain⟨X,p2⟩:=a4.out k ab Q;have p:=ad (HB.out k);have J:=az.out k ab Q;obtain⟨d,hd⟩:∃d,d=k-l:=⟨_,rfl⟩;have bb:IntKind.i64.wrap ((k:Int)-l)=(d:Int):=(by rw[aA _ ω];omega);rw[<- hd]at p X p2;have hT:y*2^d<=32768*32768:=bo hy X;have bd:IntKind.i64.wrap ((y:Int)*2^d)=((y*2^d:Nat):Int):=(by rw[show(y:Int)*2^d=((y*2^d:Nat):Int) by simp];exact aA _ ω);have be:IntKind.i64.wrap ((2:Int)^d)=((2^d:Nat):Int):=(by rw[show(2:Int)^d=((2^d:Nat):Int) by simp];exact aA _ ω);rw[ik]at p;generalize aL m k=M,fM m m.length k=F at *;have A:Hid (G k=false->∀j,l<j->j<k+1->G j=false):=λh j o q=>by
    by_cases e:j=k;·rw[e];exact h
    ·exact I.out j o ω
   generalize G k=Gk at *;have bk:=aA (((y*2^d:Nat):Int)+((2^d:Nat):Int)) ω;have bl:=aA ((F:Int)+M) ω;have bm:d<64:=ω;clear hd X p2;generalize 2^d=D,y*2^d=T at *;have i1:(k:Int)<=15:=ω;have i2:(k:Int)<16:=ω;have i3:(0:Int)<=k:=ω;have bu:=aA ((k:Int)+1) ω;by_cases g1:0<M
   ·have K:Hid (decide ((0:Int)<M)=true):=bz ω;by_cases g2:T<F+M
    ·have U:Hid (decide ((T:Int)<(F:Int)+M)=true):=bz ω;by_cases g3:F<T+D;·have Y:Hid (decide ((F:Int)<(T:Int)+D)=true):=bz ω;have Z:=J (by rw[p.out,bz g1,bz g2,bz g3];rfl);subst Z;clear p A J I;go_upto_region 5 with fail;have G1:=K.out;have G2:=U.out;have G3:=Y.out;go_quiet (fail);go_wp2;go_ret;exact⟨rfl,z.trans (Qt.drewN _ _)⟩
     ·have Y:Hid (decide ((F:Int)<(T:Int)+D)=false):=bw ω;have L:=ad (A.out (by rw[p.out,bw g3];simp));clear p A J I;go_upto_region 5 with fail;have G1:=K.out;have G2:=U.out;have G3:=Y.out;go_quiet (fail);go_wp2;go_roundw;·exact⟨k+1,ω,ω,γ,L,z.trans (Qt.drewN _ _)⟩
      ·exact μ
    ·have U:Hid (decide ((T:Int)<(F:Int)+M)=false):=bw ω;have L:=ad (A.out (by rw[p.out,bw g2];simp));clear p A J I;go_upto_region 5 with fail;have G1:=K.out;have G2:=U.out;go_quiet (fail);go_wp2;go_roundw;·exact⟨k+1,ω,ω,γ,L,z.trans (Qt.drewN _ _)⟩
     ·exact μ
   ·have K:Hid (decide ((0:Int)<M)=false):=bw ω;have L:=ad (A.out (by rw[p.out,bw g1];simp));clear p A J I;go_upto_region 5 with fail;have G1:=K.out;go_quiet (fail);go_wp2;go_roundw;·exact⟨k+1,ω,ω,γ,L,z.trans (Qt.drewN _ _)⟩
    ·exact μ
  ·obtain rfl:k=16:=ω;have Z:=a0.out (λj o q=>I.out j o ω);subst Z;go_wp2;go_ret;exact⟨rfl,z⟩
