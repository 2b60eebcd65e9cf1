/- Lemmas for ThreeTurned. -/
import Derived.Test.YtndbpldeabnkbaaGreatDoorM42
import Derived.Test.YtndbpldeabnkbaaGreatDoorM20
set_option linter.all false
set_option maxHeartbeats 8000000
set_option maxRecDepth 100000
namespace Go.Fk
def QK(r d:Z0)(n f a:Nat)(e:Bool)(h:n<=d.length):dP r n f a d e=(d,a,0):=by
 cases f with
 | zero=>rfl
 | succ f=>rw[dP,af h]
def QG(r d:Z0)(n f a:Nat)(e:Bool)(h:d.length<n)(m:8*r.length<a+4):dP r n (f+1) a d e=([],a,1):=by
 rw[dP,ae ω,af m]
def QI(r d:Z0)(n f a:Nat)(e:Bool)(h:d.length<n)(m:¬8*r.length<a+4)(o:0<aI r a 4):dP r n (f+1) a d e=dP r n f (a+4) (d++[UInt8.ofNat (aI r a 4)]) false:=by
 rw[dP,ae ω,ae m,af o]
def QF(r d:Z0)(n f a:Nat)(e:Bool)(h:d.length<n)(m:¬8*r.length<a+4)(z:aI r a 4=0)(o:8*r.length<a+4+6):dP r n (f+1) a d e=([],a,1):=by
 rw[dP,ae ω,ae m,ae ω,af o]
def QL(r d:Z0)(n f a:Nat)(e:Bool)(h:d.length<n)(m:¬8*r.length<a+4)(A:aI r a 4=0)(o:¬8*r.length<a+4+6)(z:e=true\/n-d.length<=aI r (a+4) 6):dP r n (f+1) a d e=([],a,7):=by
 rw[dP,ae ω,ae m,ae ω,ae o,af z]
def QH(r d:Z0)(n f a:Nat)(e:Bool)(h:d.length<n)(m:¬8*r.length<a+4)(A:aI r a 4=0)(o:¬8*r.length<a+4+6)(z:¬(e=true\/n-d.length<=aI r (a+4) 6)):dP r n (f+1) a d e=dP r n f (a+4+6) (d++List.replicate (aI r (a+4) 6+1) 0) (decide (aI r (a+4) 6+1<64)):=by
 rw[dP,ae ω,ae m,ae ω,ae o,ae z]
end Go.Fk
namespace Go.Proofs.YtndbpldeabnkbaaGreatDoor
open Go.RowKit Go.Fk
def JE(B base n a k:Nat)(v:Value)(l:Z0)(w:World)(d:eC w B base v l n a)(G:l.length<=1000000)(M:k<=64):Calls Tryz.prog 247 #[.pointer (some ⟨B,0,none⟩),N k] w λe w'=>e=.returned (.tuple #[.int .u64 ((if n<a+k then 0 else Fk.aI l a k:Nat):Int),.int .i64 ((if n<a+k then 1 else 0:Nat):Int)])/\eC w' B base v l n (if n<a+k then a else a+k)/\ai (λb=>b=B) w w':=by
 have I:=ad (sp B base n a l w d.f G);have ap:n<=8000000:=by have:=d.eq;omega
 by_cases h:n<a+k;·have O:=ad d;have k3:(n:Int)-a<k:=ω;go_in;go_wp2_with fail;apply I.z;rintro e z ⟨rfl,o⟩;go_wp2;go_ret2;exact⟨rfl,O.out.fr o.fr,o.fr.chg _⟩
 ·have k3:¬(n:Int)-a<k:=ω;have Q:=ad (λW (R:Fr w W)=>yH B base n a a k l W (d.f.fr R) G M d.le);obtain⟨A,J,K,av⟩:=d;have U:=ad K;have V:Hid (a+k<=n):=(by show _<=_;omega);have X:=J.ne_cells A δ;clear K h;go_in;go_wp2_with fail;apply I.z;rintro e z ⟨rfl,o⟩;have Y:=o.fr.heap A;have c2:=ag Y 2 rfl;have Z:=ad (λm=>Q.out (z.drewN m) (o.fr.drewN m));go_wp2;go_quiet ((go_at_call 265;exact o9 (Z.out _)));have D:=o.fr.drewN nq;generalize z.drewN nq=w2 at *;have F:=D.heap A;have d2:=ag F 2 rfl;have z2:=a8 F 2;have L:=a9 w2 ⟨B,2,none⟩ (.int .i64 ((a:Int)+k));have ab:=aJ F 2 (.int .i64 ((a:Int)+k));have ac:=(J.fr D).chg L (λi hi e=>X (by rw[hi,show i=B from e]));have ak:=(D.chg _).trans L λ_ _ h=>h;go_wp2;go_ret2;exact⟨rfl,⟨ab,ac,U.out,V.out⟩,ak⟩
def XO(B base n8 a n:Nat)(v:Value)(r:Z0)(w:World)(I:eC w B base v r n8 a)(hl:r.length<=1000000)(hn:n<=300):Calls Tryz.prog 266 #[.pointer (some ⟨B,0,none⟩),N n] w λe w'=>∃u,e=.returned (.tuple #[u,.int .i64 ((bI r n a).2.2:Int)])/\Ow w' w.heap.size eB u (bI r n a).1/\ai (λb=>b=B) w w'/\((bI r n a).2.2=0->eC w' B base v r n8 (bI r n a).2.1/\(bI r n a).1.length=n/\bX (bI r n a).1=true/\∀c∈(bI r n a).1,c.toNat<=15):=by
 have KR:=ad (λX (h:dP r n n a [] false=X) (h2:¬X.2.2=0)=>(show bI r n a=X by unfold bI;rw[h,ae h2]));have KE:=ad (λd m (h:dP r n n a [] false=(d,m,0))=>(show bI r n a=if bX d then(d,m,0)else([],a,7) by unfold bI;rw[h];rfl));have c1:=I.eq;have bs:∀k,v.ownBlock=some k->k<w.heap.size:=λk h=>(I.o.lt k h).2;have bA:=ad (QK r);have bB:=ad (QG r);have bL:=ad (QI r);have bR:=ad (QF r);have bT:=ad (QL r);have ca:=ad (QH r);have bu:=ad (λa k W h D=>JE B base n8 a k v r W h hl D);have bv:=ad (λa k=>pS r a k);have HI:Hid (∃(f:Nat) (d:Z0),dP r n n a [] false=dP r n f a d false/\n<=f+d.length/\d=[]):=⟨n,[],rfl,σ,rfl⟩;generalize bI r n a=LR at *;generalize dP r n n a [] false=G0 at *;have c4:B<w.heap.size:=(aR.1 I.h).1;have HC:=ad I;have j1:¬(n:Int)<0:=ω
 have j2:¬(300:Int)<n:=ω
 clear I;go_in;go_wp2_with (at_make;refine sS eB rfl (.const (.int .i64 0)) (.tmp 18) 30 rfl Tryz.underlying30 .i64 .i64 _ n rfl rfl rfl ω w.heap.size (al _) ?_);intro w1 b1 b2;have ba:Fr w w1:=Fr.grown (Fr.refl w) b2 (al _) (λk e=>by cases e);have b3:=HC.out.fr ba;clear b2 HC;go_wp2;go_loopw [6,7] (λuv sv wr=>∃(f m:Nat) (d:Z0) (A:Bool),sv=.bool A/\Hid (G0=dP r n f m d A)/\n<=f+d.length/\d.length<=n/\Hid (∀c∈d,c.toNat<=15)/\Ow wr w.heap.size eB uv d/\eC wr B base v r n8 m/\ai (λb=>b=B) w wr) (λuv _ _=>n-rE uv);case atStart=>obtain⟨f,d,h1,h2,rfl⟩:=HI.out;exact⟨f,a,[],false,rfl,h1,h2,ar _,(λc h=>(iU h).elim),b1,b3,ba.chg _⟩
 case round=>
  clear b1 b3 ba HI;obtain⟨f,m,d,A,rfl,HG,c7,c8,a2,G,hC,V⟩:=hrel;obtain⟨p,z,rfl⟩:=G.shape';by_cases ap:d.length<n
  ·obtain⟨f,rfl⟩:∃g,f=g+1:=⟨f-1,ω⟩;have i1:(d.length:Int)<n:=ω;have O:=ad (bu.out m 4 wr hC ω);have cB:=hC.le;by_cases h4:n8<m+4;·rw[af h4,af h4,af h4]at O;have o:=ad (KR.out _ (HG.out.trans (bB.out d n f m A ap ω)) σ);clear G hC;go_wp2_with fail;apply O.z;rintro e J ⟨rfl,Q,F⟩;go_wp2;go_ret2;rw[o.out];exact⟨_,rfl,Ow.nil,V.trans F λ_ _ h=>h,λh=>by cases h⟩
   ·rw[ae h4,ae h4,ae h4]at O;have hx:=bv.out m 4;by_cases h0:0<Fk.aI r m 4
    ·have o:=ad (HG.out.trans (bL.out d n f m A ap ω h0));have cj:Hid (Fk.aI r m 4<16):=hx;clear hx;generalize Fk.aI r m 4=x at *;have hx:=cj.out;have cE:IntKind.u8.wrap (x:Int)=(x:Int):=(by simp[IntKind.wrap,IntKind.bits,IntKind.signed];omega);have j3:(0:Int)<x:=ω;have ck:Hid (d.length+[UInt8.ofNat x].length<=2147483648):=(by show _<=_;simp;omega);have Y:=ad G;clear G hC;go_wp2_with fail;apply O.z;rintro e J ⟨rfl,Q,F⟩;have Z:=Y.out.chg F (λk D e=>by have:=(Y.out.lt k D).1;have e:k=B:=e;omega);have K:=V.trans F λ_ _ h=>h;have cl:=K.size;go_wp2_with (at_builtin;refine cW eB rfl (.tmp 34) (.tmp 37) 30 rfl Tryz.underlying30 w.heap.size rfl Z [UInt8.ofNat x] _ _ _ (yA x ω) rfl rfl ck.out cl ?_);intro v4 w4 L;have bd:=Q.chg L.chg' (λe=>by have:=(Z.lt B e).1;omega) (λk D e=>by have:=bs k D;have:=(Z.lt k e).1;omega);have bf:ai (λb=>b=B) w w4:=K.trans L.chg' λi hi e=>(by have:=(Z.lt i e).1;omega);obtain⟨va,vc,rfl⟩:=L.own.shape';go_wp2;go_roundw;case rel=>exact⟨f,m+4,d++[UInt8.ofNat x],false,rfl,o.out,by simp;omega,by simp;omega,λc I=>(jD.1 I).elim (a2.out c) (λh=>by rw[ow.1 h,jp];omega),L.own,bd,bf⟩
     case measure=>simp[rE];omega
    ·have aj:Fk.aI r m 4=0:=ω;rw[aj]at O;have R:=ad (λW h=>bu.out (m+4) 6 W h ω);by_cases h6:n8<m+4+6;·have o:=ad (KR.out _ (HG.out.trans (bR.out d n f m A ap ω aj ω)) σ);simp only[af h6]at R;clear G hC hx aj h0;go_wp2_with fail;apply O.z;rintro e J ⟨rfl,Q,F⟩;have ak:=ad (R.out J Q);have K:=V.trans F λ_ _ h=>h;clear R;go_wp2_with fail;apply ak.z;rintro e w3 ⟨rfl,a4,U⟩;go_wp2;go_ret2;rw[o.out];exact⟨_,rfl,Ow.nil,K.trans U λ_ _ h=>h,λh=>by cases h⟩
     ·simp only[ae h6]at R;have hy:=bv.out (m+4) 6;have HA:=ad (bT.out d n f m A ap ω aj ω);have bm:=ad (ca.out d n f m A ap ω aj ω);have cs:Hid (Fk.aI r (m+4) 6<64):=hy;have Y:=ad G;clear G hC hx aj h0 hy;generalize Fk.aI r (m+4) 6=y at *;have hy:=cs.out;have cG:=ax ((n:Int)-d.length) ω;have cL:=ax (y:Int) ω;have cN:=dF ((y:Int)+1) ω;by_cases M:A=true\/n-d.length<=y
      ·have o:=ad (KR.out _ (HG.out.trans (HA.out M)) σ);clear HA bm;go_wp2_with fail;apply O.z;rintro e J ⟨rfl,Q,F⟩;have ak:=ad (R.out J Q);have K:=V.trans F λ_ _ h=>h;clear R
       cases A with
       | true=>go_wp2_with fail;apply ak.z;rintro e w3 ⟨rfl,a4,U⟩;go_wp2;go_ret2;rw[o.out];exact⟨_,rfl,Ow.nil,K.trans U λ_ _ h=>h,λh=>by cases h⟩
       | false=>have j4:(n:Int)-d.length<=y:=(by rcases M with M | M;cases M;omega);go_wp2_with fail;apply ak.z;rintro e w3 ⟨rfl,a4,U⟩;go_wp2;go_ret2;rw[o.out];exact⟨_,rfl,Ow.nil,K.trans U λ_ _ h=>h,λh=>by cases h⟩
      ·have o:=ad (HG.out.trans (bm.out M));obtain rfl:A=false:=(by cases A;rfl;exact absurd (.inl rfl) M);have j4:¬(n:Int)-d.length<=y:=λh=>M (.inr ω);clear HA bm M;go_wp2_with fail;apply O.z;rintro e J ⟨rfl,Q,F⟩;have ak:=ad (R.out J Q);have K:=V.trans F λ_ _ h=>h;have Z:=Y.out.chg F (λk D e=>by have:=(Y.out.lt k D).1;have e:k=B:=e;omega);clear R;go_wp2_with fail;apply ak.z;rintro e w3 ⟨rfl,a4,U⟩;have a5:=Z.chg U (λk D e=>by have:=(Z.lt k D).1;have e:k=B:=e;omega);have b5:=K.trans U λ_ _ h=>h;obtain⟨v4,w4,hr,L⟩:=N2 (P:=Tryz.prog) eB w3 w.heap.size 30 60 30 .u64 .u64 Tryz.underlying30 Tryz.underlying60 a5 (y+1) ω ω b5.size;rw[show((y+1:Nat):Int)=(y:Int)+1 by omega]at hr;have bd:=a4.chg L.chg' (λe=>by have:=(a5.lt B e).1;omega) (λk D e=>by have:=bs k D;have:=(a5.lt k e).1;omega);have bf:ai (λb=>b=B) w w4:=b5.trans L.chg' λi hi e=>(by have:=(a5.lt i e).1;omega);obtain⟨va,vc,b7⟩:=L.own.shape';rw[am,jX]at b7;subst b7;go_wp2_with (at_builtin;refine Lib.wpList_append_run _ rfl (.tmp 57) (.tmp 59) 30 60 rfl _ _ rfl rfl _ _ hr ?_);go_roundw;case rel=>exact⟨f,m+4+6,d++List.replicate (y+1) 0,decide (y+1<64),dp Value.bool (decide_eq_decide.2 ω),o.out,by simp;omega,by simp;omega,λc I=>(jD.1 I).elim (a2.out c) (λh=>by rw[(List.mem_replicate.1 h).2];decide),L.own,bd,bf⟩
       case measure=>simp[rE];omega
  ·have bn:d.length=n:=ω;have o:=ad (KE.out d m (HG.out.trans (bA.out d n f m A ω)));have HK:=ad (yT _ d wr G.see ω a2.out);have i2:¬(d.length:Int)<n:=ω;have Y:=ad G;clear G
   cases a0:bX d with
   | true=>rw[a0]at HK o;have HN:=ad bn;have cv:=ad a0;clear bn a0;go_wp2_with fail;apply HK.z;rintro e J ⟨rfl,a1⟩;go_wp2;go_ret2;rw[o.out];exact⟨_,rfl,Y.out.fr a1,V.trans (a1.chg _) λ_ _ h=>h,λ_=>⟨hC.fr a1,HN.out,cv.out,a2.out⟩⟩
   | false=>rw[a0]at HK o;clear bn a0;go_wp2_with fail;apply HK.z;rintro e J ⟨rfl,a1⟩;go_wp2;go_ret2;rw[o.out];exact⟨_,rfl,Ow.nil,V.trans (a1.chg _) λ_ _ h=>h,λh=>by cases h⟩
open Go.RowKit Go.Fk
def Bt:Option Nat->Value | some s=>.tuple #[N s,.bool true] | none=>.tuple #[N 0,.bool false]
def X7(d:Z0)(base g x l:Nat)(c:Nat->Value)(w:World)(h:ed w base g d d.length c)(hn:d.length<=300)(O:bX d=true)(D:∀c∈d,c.toNat<=15)(m:1<=l)(Q:l<=15)(hx:x<=1000000):Calls Tryz.prog 272 #[.pointer (some ⟨g,0,none⟩),.int .u64 (x:Int),N l] w λe w'=>e=.returned (Bt (l9 d x l))/\w'=w:=by
 have k1:w.cell? ⟨g,2+l,none⟩=some (N (fM d d.length l)):=h.arr.cell (2+l) ω (h.first l m ω);have k2:w.cell? ⟨g,18+l,none⟩=some (N (aE d l)):=h.arr.cell (18+l) ω (by rw[h.many l m ω,dY]);have G:=h.syms l m ω;obtain⟨p,z,U⟩:=G.shape';have a3:(sM d d.length l).length=aE d l:=by rw[Af d _ l (al _),dY]
 have k3:w.cell? ⟨g,34+l,none⟩=some (.slice p (sM d d.length l).length z):=h.arr.cell (34+l) ω U;rw[U]at G;obtain⟨m1,m2⟩:=GX d O D l m Q;have I:=ad (SO d O D x l m Q);have o:=ad (SN d O D x l m Q);have J:=ad (λi (hi:i<(sM d d.length l).length)=>G.see.cell1 (λn:Nat=>Value.int .i64 (n:Int)) rfl i hi);have a6:=qf d l;generalize sM d d.length l=L,l9 d x l=R,aE d l=M,fM d d.length l=F at *;have a7:=ax (x:Int) ω;have Z:=ax ((x:Int)-F) ω;have l1:(0:Int)<=l:=ω
 have l2:(l:Int)<16:=ω
 clear h U G D;by_cases hF:F<=x
 ·by_cases V:x-F<M;·obtain⟨s,hs,X,A⟩:=I.out hF V;obtain⟨b,bc,cp,ak,c0⟩:=J.out (x-F) ω;cases ak;have ab:L[x-F]'ω=s:=(by rw[bj ω]at X;exact jU X);rw[ab]at c0;subst A;obtain⟨q,K⟩:∃q,q=x-F:=⟨_,rfl⟩;rw[<- K]at c0 V;have Y:(x:Int)-F=q:=ω;rw[Y]at Z;have q1:¬(q:Int)<0:=ω;have q2:¬(M:Int)<=q:=ω;have q3:(q:Int)<L.length:=ω;have q4:(0:Int)<=q:=ω;clear I o J X ab K;go_in;go_wp2;go_ret2;exact⟨rfl,rfl⟩
  ·have A:=o.out (λh=>V h.2);subst A;obtain⟨q,K⟩:∃q,q=x-F:=⟨_,rfl⟩;have Y:(x:Int)-F=q:=ω;rw[Y]at Z;have q1:¬(q:Int)<0:=ω;have q2:(M:Int)<=q:=ω;clear I o J K;go_in;go_wp2;go_ret2;exact⟨rfl,rfl⟩
 ·have A:=o.out (λh=>hF h.1);subst A;have q1:(x:Int)-F<0:=ω;clear I o J;go_in;go_wp2;go_ret2;exact⟨rfl,rfl⟩
def XB(m:Z0)(base g y l:Nat)(c:Nat->Value)(w:World)(h:ed w base g m m.length c)(hn:m.length<=300)(Y:bX m=true)(U:∀c∈m,c.toNat<=15)(A:l<=15)(hy:y<=32768):Calls Tryz.prog 274 #[.pointer (some ⟨g,0,none⟩),.int .u64 (y:Int),N l] w λe w'=>e=.returned (.bool (oK m y l))/\Qt w w':=by
 have a5:=ad (fun k=>Pd m Y U y l k);have a6:=ad (EY m Y U y l);have HB:Hid (∀ k,tY m y l k=(decide (0<aE m k) && decide (y*2 ^ (k - l)<fM m m.length k+aE m k) && decide (fM m m.length k<(y+1)*2 ^ (k - l)))):=fun k=>rfl;have HC:=ad (fun k (o:1<=k) (A:k<=15)=>(⟨h.arr.cell (2+k) (by omega) (h.first k o (by omega)),h.arr.cell (18+k) (by omega) (by rw [h.many k o (by omega),dY])⟩:w.cell? ⟨g,2+k,none⟩=some (N (fM m m.length k))/\w.cell? ⟨g,18+k,none⟩=some (N (aE m k))));have HL:=ad (fun k (o:1<=k) (A:k<=15)=>GX m Y U k o A);generalize tY m y l=G,oK m y l=R at *;have bb : Hid (∀ k, l < k → k ≤ 15 → 2 ^ (k - l) ≤ 32768 ∧ 0 < 2 ^ (k - l)) := fun k o A => ⟨by
   have : (2 : Nat)^(k-l) ≤ 2^15 := fp ω ω
   omega, Nat.pow_pos ω⟩
 have bf:=ax (y:Int) ω;have bk:=ax ((l:Int)+1) ω;clear h U;go_in;go_wp2;go_loopw [7] (λZ wr=>∃k:Nat,l<k/\k<=16/\Z=N k/\Hid (∀j,l<j->j<k->G j=false)/\Qt w wr) (λZ _=>16-(intOf Z).toNat);case atStart=>exact⟨l+1,ω,ω,γ,λj o A=>absurd o ω,Qt.refl _⟩
 case round=>
  obtain⟨k,aj,bl,rfl,K,I⟩:=hrel;by_cases V:k<=15
  ·obtain⟨k1,k2⟩:=HC.out k ω V;replace k1:=I.fr.cell k1;replace k2:=I.fr.cell k2;obtain⟨m1,m2⟩:=HL.out k ω V;obtain⟨p1,p2⟩:=bb.out k aj V;have z:=ad (HB.out k);have L:=a5.out k aj V;obtain⟨d,hd⟩:∃d,d=k-l:=⟨_,rfl⟩;have bs:IntKind.i64.wrap ((k:Int)-l)=(d:Int):=(by rw[ax _ ω];omega);rw[<- hd]at z p1 p2;have hT:y*2^d<=32768*32768:=bH hy p1;have bv:IntKind.i64.wrap ((y:Int)*2^d)=((y*2^d:Nat):Int):=(by rw[show(y:Int)*2^d=((y*2^d:Nat):Int) by simp];exact ax _ ω);have bx:IntKind.i64.wrap ((2:Int)^d)=((2^d:Nat):Int):=(by rw[show(2:Int)^d=((2^d:Nat):Int) by simp];exact ax _ ω);rw[jW]at z;generalize aE m k=M,fM m m.length k=F at *;have J:Hid (G k=false->∀j,l<j->j<k+1->G j=false):=λh j o A=>by
    by_cases e:j=k;·rw[e];exact h
    ·exact K.out j o ω
   generalize G k=Gk at *;have b1:=ax (((y*2^d:Nat):Int)+((2^d:Nat):Int)) ω;have b2:=ax ((F:Int)+M) ω;have b3:d<64:=ω;clear hd p1 p2;generalize 2^d=D,y*2^d=T at *;have i1:(k:Int)<=15:=ω;have i2:(k:Int)<16:=ω;have i3:(0:Int)<=k:=ω;have b7:=ax ((k:Int)+1) ω;by_cases g1:0<M
   ·have O:Hid (decide ((0:Int)<M)=true):=bp ω;by_cases g2:T<F+M
    ·have X:Hid (decide ((T:Int)<(F:Int)+M)=true):=bp ω;by_cases g3:F<T+D;·have aa:Hid (decide ((F:Int)<(T:Int)+D)=true):=bp ω;have hR:=L (by rw[z.out,bp g1,bp g2,bp g3];rfl);subst hR;clear z J L K;go_upto_region 5 with fail;have G1:=O.out;have G2:=X.out;have G3:=aa.out;go_quiet (fail);go_wp2;go_ret;exact⟨rfl,I.trans (Qt.drewN _ _)⟩
     ·have aa:Hid (decide ((F:Int)<(T:Int)+D)=false):=br ω;have Q:=ad (J.out (by rw[z.out,br g3];simp));clear z J L K;go_upto_region 5 with fail;have G1:=O.out;have G2:=X.out;have G3:=aa.out;go_quiet (fail);go_wp2;go_roundw;case rel=>exact⟨k+1,ω,ω,γ,Q,I.trans (Qt.drewN _ _)⟩
      case measure=>exact μ
    ·have X:Hid (decide ((T:Int)<(F:Int)+M)=false):=br ω;have Q:=ad (J.out (by rw[z.out,br g2];simp));clear z J L K;go_upto_region 5 with fail;have G1:=O.out;have G2:=X.out;go_quiet (fail);go_wp2;go_roundw;case rel=>exact⟨k+1,ω,ω,γ,Q,I.trans (Qt.drewN _ _)⟩
     case measure=>exact μ
   ·have O:Hid (decide ((0:Int)<M)=false):=br ω;have Q:=ad (J.out (by rw[z.out,br g1];simp));clear z J L K;go_upto_region 5 with fail;have G1:=O.out;go_quiet (fail);go_wp2;go_roundw;case rel=>exact⟨k+1,ω,ω,γ,Q,I.trans (Qt.drewN _ _)⟩
    case measure=>exact μ
  ·obtain rfl:k=16:=ω;have hR:=a6.out (λj o A=>K.out j o ω);subst hR;go_wp2;go_ret;exact⟨rfl,I⟩
