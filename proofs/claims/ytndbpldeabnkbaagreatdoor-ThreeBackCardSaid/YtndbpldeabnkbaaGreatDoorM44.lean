/- Lemmas for ThreeTurned. -/
import Derived.Test.YtndbpldeabnkbaaGreatDoorM31
import Derived.Test.YtndbpldeabnkbaaGreatDoorM22
import Derived.Test.YtndbpldeabnkbaaGreatDoorM41
set_option linter.all false
set_option maxHeartbeats 8000000
set_option maxRecDepth 100000
namespace Go.Proofs.YtndbpldeabnkbaaGreatDoor
open Go.RowKit Go.Fk
def rW:aw Tryz.prog Hd:=⟨56,1,24,⟨none,0,0⟩,.slice none 0 0,λh=>[h.v],by kernel_rfl,δ,δ,by simp[Value.cells],λ_=>rfl,by intro x u d;simp at d;subst d;rfl⟩
def eY{α:Type}{E:aw Tryz.prog α}{w w':World}{g base:Nat}{v:Value}{l:List α}{d:Array Value}{T:TypeId}{f:Nat × Nat}(h:Ow w base E v l)(m:w.heap[g]?=some (.cells d T f))(o:T≠E.e)(z:ai (λk=>k=g) w w'):Ow w' base E v l:=
 h.chg z λk A e=>h.ne_cells m o (by rw[A,show k=g from e])
def qO{α:Type}{E:aw Tryz.prog α}{w w':World}{g base:Nat}{d:List Hd}{e:List (List α)}{m:Array Value}{T:TypeId}{f:Nat × Nat}(h:cr w base E d e)(o:w.heap[g]?=some (.cells m T f))(z:T≠E.e)(A:ai (λk=>k=g) w w'):cr w' base E d e:=
 ⟨h.1,λt D F=>eY (h.2 t D F) o z A⟩
def Wt(v:Value)(q:List Z0)(w:World)(d:ah w eS v q)(F:q.length<=100000000):Calls Tryz.prog 177 #[v] w λe w'=>∃v,e=.returned v/\Ow w' w.heap.size eS v q/\Fr w w':=by
 obtain⟨a,z,rfl,G,I,h⟩:=d.shape
 cases a with
 | none=>obtain⟨rfl,rfl⟩:=h rfl;have A:=λW=>wF (P:=Tryz.prog) W 81 9 none 0 0 0 0 Tryz.underlying81;go_in;go_wp2;go_ret;exact⟨_,rfl,Ow.nil,Fr.refl w⟩
 | some a=>
  clear h;have m:=nu eS w #[] ([]:List Z0) 0 rfl σ (al w.heap.size) rfl;have D:=d.fr ((Fr.refl w).alloc (.cells #[] eS.e));have A:=λW=>wF (P:=Tryz.prog) W 81 9 (some a) q.length z 0 0 Tryz.underlying81;go_in;go_wp2_with (at_builtin;refine iJ eS rfl (.tmp 5) (.tmp 6) 81 rfl Tryz.underlying81 w.heap.size rfl m _ _ rfl D ?c1 ?c2 ?_);case c1=>simp;omega
  case c2=>simp
  intro v' w4 o;go_wp2;go_ret;exact⟨_,rfl,o.own,o.below m ((Fr.refl w).alloc _) (al _) σ⟩
def Xw(v:Value)(q:List Nat)(w:World)(d:ah w eJ v q)(F:q.length<=100000000):Calls Tryz.prog 53 #[v] w λe w'=>∃v,e=.returned v/\Ow w' w.heap.size eJ v q/\Fr w w':=by
 obtain⟨a,z,rfl,G,I,h⟩:=d.shape
 cases a with
 | none=>obtain⟨rfl,rfl⟩:=h rfl;have A:=λW=>wF (P:=Tryz.prog) W 56 3 none 0 0 0 0 Tryz.underlying56;go_in;go_wp2;go_ret;exact⟨_,rfl,Ow.nil,Fr.refl w⟩
 | some a=>
  clear h;have m:=nu eJ w #[] ([]:List Nat) 0 rfl σ (al w.heap.size) rfl;have D:=d.fr ((Fr.refl w).alloc (.cells #[] eJ.e));have A:=λW=>wF (P:=Tryz.prog) W 56 3 (some a) q.length z 0 0 Tryz.underlying56;go_in;go_wp2_with (at_builtin;refine iJ eJ rfl (.tmp 5) (.tmp 6) 56 rfl Tryz.underlying56 w.heap.size rfl m _ _ rfl D ?c1 ?c2 ?_);case c1=>simp;omega
  case c2=>simp
  intro v' w4 o;go_wp2;go_ret;exact⟨_,rfl,o.own,o.below m ((Fr.refl w).alloc _) (al _) σ⟩
def XK(g base size:Nat)(t o:List Z0)(w:World)(h:me w g base size t o):Calls Tryz.prog 139 #[.pointer (some ⟨g,0,none⟩)] w λe w'=>e=.returned (N t.length)/\w=w':=by
 obtain⟨⟨D,F,d,m,z,A⟩,G⟩:=h;obtain⟨I,J,rfl⟩:=m.shape';have K:=ag d 0 rfl;clear d m z A;go_in;go_wp2;go_ret;exact⟨rfl,rfl⟩
def XL(g base size:Nat)(t A:List Z0)(w:World)(h:me w g base size t A)(D:t.length<=100000000):Calls Tryz.prog 140 #[.pointer (some ⟨g,0,none⟩)] w λe w'=>∃v,e=.returned v/\Ow w' w.heap.size eS v t/\Fr w w':=by
 obtain⟨⟨F,K,m,d,G,I⟩,L⟩:=h;have o:=ad (Wt F t w d.see D);obtain⟨M,O,rfl⟩:=d.shape';have Q:=ag m 0 rfl;clear m d G I;go_in;go_wp2_with fail;apply o.z;rintro e R ⟨u,rfl,z,J⟩;obtain⟨U,V,rfl⟩:=z.shape';clear o;go_wp2;go_ret;exact⟨_,rfl,z,J⟩
def QQ(d:Nat)(b:Z0)(n i a:Nat)(e:List (List Nat))(h:i<n):gX d b (n-i) a e=if(fu d (b.drop a)).2.2=0 then(if(fu d (b.drop a)).1=[]then([],2)else gX d b (n-(i+1)) (a+(fu d (b.drop a)).2.1) (e++[(fu d (b.drop a)).1]))else([],(fu d (b.drop a)).2.2):=by
 rw[show n-i=(n-(i+1))+1 by omega,gX]
def OL(n d:Nat)(hb:d<=20000)(v:Value)(b:Z0)(w:World)(G:ah w eB v b)(hl:b.length<=1000000)(hn:n<=100000000):Calls Tryz.prog 138 #[N n,N d,v] w λe w'=>∃u,e=.returned (.tuple #[u,.int .i64 ((gX d b n 0 []).2:Int)])/\(∃m,Ow w' w.heap.size rW u m/\cr w' w.heap.size eJ m (gX d b n 0 []).1)/\Fr w w':=by
 obtain⟨L,Z⟩:∃L,L=gX d b n 0 []:=⟨_,rfl⟩;rw[<- Z];have HL:Hid (L=gX d b (n-0) 0 []):=Z;clear Z;have bA:=ad (QQ d b n);have bB:=ad (λv q W G (hq:q.length<=1000000)=>XG d hb v q W G hq);have bL:=ad (λq h=>He d q h);obtain⟨a0,bm,rfl,_⟩:=G.shape;have bn:ah w eB (.slice a0 b.length bm) (b.drop 0):=G;clear G;go_in;go_wp2;go_loopw [2,8,13] (λbv ov iv wr=>∃(i a:Nat) (p:Option Addr) (c:Nat) (m:List Hd) (A:List (List Nat)),i<=n/\iv=N i/\a<=b.length/\bv=.slice p (b.length-a) c/\ah w eB (.slice p (b.length-a) c) (b.drop a)/\A.length=i/\Ow wr w.heap.size rW ov m/\cr wr w.heap.size eJ m A/\Fr w wr/\Hid (L=gX d b (n-i) a A)) (λ_ _ iv _=>n-(intOf iv).toNat);case atStart=>exact⟨0,0,a0,bm,[],[],ar _,rfl,ar _,rfl,bn,rfl,Ow.nil,⟨rfl,λt h=>by simp at h⟩,Fr.refl _,HL.out⟩
 case round=>
  clear bn HL;obtain⟨i,a,p,c,m,A,hi,rfl,ha,rfl,O,R,I,hR,U,V⟩:=hrel;by_cases ca:i<n
  ·have i1:(i:Int)<n:=ω;have cb:(b.drop a).length=b.length-a:=aN ..;have bs:=ad (bB.out _ (b.drop a) wr (O.fr U) ω);have bu:=ad (bA.out i a A ca);have aj:=ad (bL.out (b.drop a));obtain⟨oa,oc,rfl⟩:=I.shape';have z:=ad (V.out.trans bu.out);have bx:=O;clear V bu O;generalize hq:fu d (b.drop a)=Q at *;clear hq;go_wp2_with fail;apply bs.z;rintro e J ⟨pv,rfl,ak,ap⟩;have b0:=I.fr ak;have av:=hR.fr ak;have X:=U.trans ak;clear bs I hR;by_cases F:Q.2.2=0
   ·rw[af F]at z;obtain⟨g,base,rfl,c8,a1⟩:=ap F;obtain⟨o1,o2,o3,o4⟩:=aj.out F;have K:=ad (JH g base Q.1 J a1);have a4:=ad (XH g base Q.1 J a1 (λx hx=>by have:=o4 x hx;omega) ω);have a5:((Q.2.2:Nat):Int)=0:=ω;rw[a5]at *;clear F a5 ap a1 aj;by_cases D:Q.1=[];·rw[af D]at z;have b2:((Q.1.length:Nat):Int)=0:=(by rw[D];rfl);have o:Hid (L=([],2)):=z;rw[D]at K;have ck:Hid (Calls Tryz.prog 175 #[.pointer (some ⟨g,0,none⟩)] J λe w'=>e=.returned (.int .i64 0)/\J=w'):=K.out;clear D b2 K a4 o3 o4;go_wp2_with fail;apply ck.z;rintro e w3 ⟨rfl,rfl⟩;go_wp2;go_ret2;rw[o.out];exact⟨_,rfl,⟨[],Ow.nil,⟨rfl,λt h=>by simp at h⟩⟩,X⟩
    ·rw[ae D]at z;have b2:¬((Q.1.length:Nat):Int)=0:=(by intro e;exact D (kd ω));obtain⟨p2,c2,cl,a6⟩:=lK eB 30 Tryz.underlying30 bx Q.2.1 o1;have a7:(b.drop a).length-Q.2.1=b.length-(a+Q.2.1):=(by rw[aN];omega);rw[a7,lk]at a6;rw[a7]at cl;have b4:a+Q.2.1<=b.length:=(by rw[aN]at o1;omega);have cm:=ad a6;have o:Hid (L=gX d b (n-(i+1)) (a+Q.2.1) (A++[Q.1])):=z;have b5:=ad R;have cn:=ad b4;clear D a6 bx o1 o2 o3 o4 R a7 b4 z cb;generalize Q.1=ids,Q.2.1=tk at *;have cq:Hid (m.length=i):=ad (by rw[av.1,b5.out]);have b6:=ad K.out;have cs:Hid (m.length+[(⟨none,0,0⟩:Hd)].length<=2147483648):=(by have:=cq.out;show _<=_;simp;omega);clear K;go_wp2_with fail;apply b6.z;rintro e w3 ⟨rfl,rfl⟩;go_wp2_with fail;apply a4.z;rintro e w3 ⟨vi,rfl,aC,ba⟩;obtain⟨ia,ic,rfl⟩:=aC.shape';have Y:=b0.fr ba;have ct:=av.fr ba;have bd:=X.trans ba;have cu:=aC.rebase (show w.heap.size<=J.heap.size from X.size);clear a4 b6 b0 av aC;go_wp2_with (at_builtin;refine cW rW rfl (.tmp 30) (.tmp 33) 82 rfl Tryz.underlying82 w.heap.size rfl Y [⟨ia,ids.length,ic⟩] _ _ _ rfl rfl rfl cs.out bd.size ?_);intro v4 w4 M;have cv:=(ct.app Y M δ).snoc (x:=⟨ia,ids.length,ic⟩) (dx cu Y M δ);have c0:=M.below Y bd (al _) bd.size;have R:=b5.out;obtain⟨va,vc,rfl⟩:=M.own.shape';go_wp2;go_roundw;case rel=>exact⟨i+1,a+tk,p2,c2,m++[⟨ia,ids.length,ic⟩],A++[ids],ω,γ,cn.out,rfl,cm.out,by rw[am,R];rfl,M.own,cv,c0,o.out⟩
     case measure=>exact μ
   ·rw[ae F]at z;have a5:¬(Q.2.2:Int)=0:=ω;have o:Hid (L=([],Q.2.2)):=z;clear F z ap aj;go_wp2;go_ret2;rw[o.out];exact⟨_,rfl,⟨[],Ow.nil,⟨rfl,λt h=>by simp at h⟩⟩,X⟩
  ·obtain rfl:i=n:=ω;have cG:¬((i:Int)<i):=ω;have o:Hid (L=if a<b.length then([],2)else(A,0)):=ad (by rw[V.out,fY];rfl);obtain⟨oa,oc,rfl⟩:=I.shape';clear V O;by_cases b7:a<b.length;·rw[af b7]at o;have k1:(0:Int)<((b.length-a:Nat):Int):=ω;generalize b.length-a=bl at *;go_wp2;go_ret2;rw[o.out];exact⟨_,rfl,⟨[],Ow.nil,⟨rfl,λt h=>by simp at h⟩⟩,U⟩
   ·rw[ae b7]at o;have k1:b.length-a=0:=ω;rw[k1];go_wp2;go_ret2;rw[o.out];exact⟨_,rfl,⟨m,I,hR⟩,U⟩
