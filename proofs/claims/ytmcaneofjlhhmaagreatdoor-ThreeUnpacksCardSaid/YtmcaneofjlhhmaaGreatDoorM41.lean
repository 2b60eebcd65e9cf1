/- Lemmas. -/
import Derived.Test.YtmcaneofjlhhmaaGreatDoorM38
import Derived.Test.YtmcaneofjlhhmaaGreatDoorM24
import Derived.Test.YtmcaneofjlhhmaaGreatDoorM36
set_option linter.all false
set_option maxHeartbeats 8000000
set_option maxRecDepth 100000
namespace Go.Proofs
open RowKit Fk Tryz
def jb:aJ prog Hd:=⟨40,1,24,⟨none,0,0⟩,.slice none 0 0,λh=>[h.v],by kernel_rfl,δ,δ,by simp[Value.cells],λ_=>rfl,by intro x u d;simp at d;subst d;rfl⟩
def cG{α:Type}{E:aJ prog α}{w w':World}{g base:Nat}{v:Value}{l:List α}{d:Array Value}{T:TypeId}{f:Nat × Nat}(h:Ow w base E v l)(m:w.heap[g]?=some (.cells d T f))(o:T≠E.e)(p:ag (λk=>k=g) w w'):Ow w' base E v l:=
 h.chg p λk q e=>h.ne_cells m o (by rw[q,show k=g from e])
def lD{α:Type}{E:aJ prog α}{w w':World}{g base:Nat}{d:List Hd}{e:List (List α)}{m:Array Value}{T:TypeId}{f:Nat × Nat}(h:cg w base E d e)(o:w.heap[g]?=some (.cells m T f))(p:T≠E.e)(q:ag (λk=>k=g) w w'):cg w' base E d e:=
 ⟨h.1,λt z A=>cG (h.2 t z A) o p q⟩
def OP(v:Value)(q:List U0)(w:World)(d:ao w eS v q)(D:q.length<=100000000):Calls prog 191 #[v] w λe w'=>∃v,e=.returned v/\Ow w' w.heap.size eS v q/\Fr w w':=by
 obtain⟨a,p,rfl,F,G,h⟩:=d.shape
 cases a with
 | none=>obtain⟨rfl,rfl⟩:=h rfl;have z:=λW=>sL (P:=prog) W 44 9 none 0 0 0 0 uAB;go_in;go_wp2;go_ret;exact⟨_,rfl,Ow.nil,Fr.refl w⟩
 | some a=>
  clear h;have m:=md eS w #[] ([]:List U0) 0 rfl σ (au w.heap.size) rfl;have A:=d.fr ((Fr.refl w).alloc (.cells #[] eS.e));have z:=λW=>sL (P:=prog) W 44 9 (some a) q.length p 0 0 uAB;go_in;go_wp2_with (at_builtin;refine fT eS rfl (.tmp 5) (.tmp 6) 44 rfl uAB w.heap.size rfl m _ _ rfl A ?c1 ?c2 ?_);case c1=>simp;omega
  case c2=>simp
  intro v' w4 o;go_wp2;go_ret;exact⟨_,rfl,o.own,o.below m ((Fr.refl w).alloc _) (au _) σ⟩
def Q5(v:Value)(q:List Nat)(w:World)(d:ao w eJ v q)(D:q.length<=100000000):Calls prog 28 #[v] w λe w'=>∃v,e=.returned v/\Ow w' w.heap.size eJ v q/\Fr w w':=by
 obtain⟨a,p,rfl,F,G,h⟩:=d.shape
 cases a with
 | none=>obtain⟨rfl,rfl⟩:=h rfl;have z:=λW=>sL (P:=prog) W 40 3 none 0 0 0 0 uAC;go_in;go_wp2;go_ret;exact⟨_,rfl,Ow.nil,Fr.refl w⟩
 | some a=>
  clear h;have m:=md eJ w #[] ([]:List Nat) 0 rfl σ (au w.heap.size) rfl;have A:=d.fr ((Fr.refl w).alloc (.cells #[] eJ.e));have z:=λW=>sL (P:=prog) W 40 3 (some a) q.length p 0 0 uAC;go_in;go_wp2_with (at_builtin;refine fT eJ rfl (.tmp 5) (.tmp 6) 40 rfl uAC w.heap.size rfl m _ _ rfl A ?c1 ?c2 ?_);case c1=>simp;omega
  case c2=>simp
  intro v' w4 o;go_wp2;go_ret;exact⟨_,rfl,o.own,o.below m ((Fr.refl w).alloc _) (au _) σ⟩
def QM(g base size:Nat)(t o:List U0)(w:World)(h:jW w g base size t o):Calls prog 128 #[.pointer (some ⟨g,0,none⟩)] w λe w'=>e=.returned (N t.length)/\w=w':=by
 obtain⟨⟨z,A,d,m,p,q⟩,D⟩:=h;obtain⟨F,G,rfl⟩:=m.shape';have I:=af d 0 rfl;clear d m p q;go_in;go_wp2;go_ret;exact⟨rfl,rfl⟩
def QN(g base size:Nat)(t q:List U0)(w:World)(h:jW w g base size t q)(z:t.length<=100000000):Calls prog 129 #[.pointer (some ⟨g,0,none⟩)] w λe w'=>∃v,e=.returned v/\Ow w' w.heap.size eS v t/\Fr w w':=by
 obtain⟨⟨A,I,m,d,D,F⟩,J⟩:=h;have o:=ad (OP A t w d.see z);obtain⟨K,L,rfl⟩:=d.shape';have M:=af m 0 rfl;clear m d D F;go_in;go_wp2_with fail;apply o.z;rintro e O ⟨u,rfl,p,G⟩;obtain⟨Q,R,rfl⟩:=p.shape';clear o;go_wp2;go_ret;exact⟨_,rfl,p,G⟩
def CB(d:Nat)(b:U0)(n i a:Nat)(e:List (List Nat))(h:i<n):fG d b (n-i) a e=if(eK d (b.drop a)).2.2=0 then(if(eK d (b.drop a)).1=[]then([],2)else fG d b (n-(i+1)) (a+(eK d (b.drop a)).2.1) (e++[(eK d (b.drop a)).1]))else([],(eK d (b.drop a)).2.2):=by
 rw[show n-i=(n-(i+1))+1 by omega,fG]
def Jy(n d:Nat)(hb:d<=20000)(v:Value)(b:U0)(w:World)(G:ao w eB v b)(hl:b.length<=1000000)(hn:n<=100000000):Calls prog 127 #[N n,N d,v] w λe w'=>∃u,e=.returned (.tuple #[u,.int .i64 ((fG d b n 0 []).2:Int)])/\(∃m,Ow w' w.heap.size jb u m/\cg w' w.heap.size eJ m (fG d b n 0 []).1)/\Fr w w':=by
 obtain⟨L,Z⟩:∃L,L=fG d b n 0 []:=⟨_,rfl⟩;rw[<- Z];have HL:Hid (L=fG d b (n-0) 0 []):=Z;clear Z;have b1:=ad (CB d b n);have b2:=ad (λv q W G (hq:q.length<=1000000)=>QJ d hb v q W G hq);have b3:=ad (λq h=>yi d q h);obtain⟨a0,aC,rfl,_⟩:=G.shape;have ba:ao w eB (.slice a0 b.length aC) (b.drop 0):=G;clear G;go_in;go_wp2;go_loopw [2,8,13] (λbv ov iv wr=>∃(i a:Nat) (p:Option Addr) (c:Nat) (m:List Hd) (A:List (List Nat)),i<=n/\iv=N i/\a<=b.length/\bv=.slice p (b.length-a) c/\ao w eB (.slice p (b.length-a) c) (b.drop a)/\A.length=i/\Ow wr w.heap.size jb ov m/\cg wr w.heap.size eJ m A/\Fr w wr/\Hid (L=fG d b (n-i) a A)) (λ_ _ iv _=>n-(intOf iv).toNat);·exact⟨0,0,a0,aC,[],[],ax _,rfl,ax _,rfl,ba,rfl,Ow.nil,⟨rfl,λt h=>by simp at h⟩,Fr.refl _,HL.out⟩
 ·
  clear ba HL;obtain⟨i,a,p,c,m,A,hi,rfl,ha,rfl,O,R,I,hR,U,V⟩:=hrel;by_cases b6:i<n
  ·have i1:(i:Int)<n:=ω;have b7:(b.drop a).length=b.length-a:=bn ..;have bb:=ad (b2.out _ (b.drop a) wr (O.fr U) ω);have bc:=ad (b1.out i a A b6);have ah:=ad (b3.out (b.drop a));obtain⟨oa,oc,rfl⟩:=I.shape';have z:=ad (V.out.trans bc.out);have bd:=O;clear V bc O;generalize hq:eK d (b.drop a)=Q at *;clear hq;go_wp2_with fail;apply bb.z;rintro e J ⟨pv,rfl,ai,aj⟩;have be:=I.fr ai;have ak:=hR.fr ai;have X:=U.trans ai;clear bb I hR;by_cases F:Q.2.2=0
   ·rw[an F]at z;obtain⟨g,base,rfl,ct,al⟩:=aj F;obtain⟨o1,o2,o3,o4⟩:=ah.out F;have K:=ad (Fy g base Q.1 J al);have av:=ad (QK g base Q.1 J al (λx hx=>by have:=o4 x hx;omega) ω);have az:((Q.2.2:Nat):Int)=0:=ω;rw[az]at *;clear F az aj al ah;by_cases D:Q.1=[];·rw[an D]at z;have bk:((Q.1.length:Nat):Int)=0:=(by rw[D];rfl);have o:Hid (L=([],2)):=z;rw[D]at K;have bR:Hid (Calls prog 189 #[.pointer (some ⟨g,0,none⟩)] J λe w'=>e=.returned (.int .i64 0)/\J=w'):=K.out;clear D bk K av o3 o4;go_wp2_with fail;apply bR.z;rintro e w3 ⟨rfl,rfl⟩;go_wp2;go_ret2;rw[o.out];exact⟨_,rfl,⟨[],Ow.nil,⟨rfl,λt h=>by simp at h⟩⟩,X⟩
    ·rw[ae D]at z;have bk:¬((Q.1.length:Nat):Int)=0:=(by intro e;exact D (kN ω));obtain⟨p2,c2,bT,a1⟩:=gN eB 22 sJ bd Q.2.1 o1;have a2:(b.drop a).length-Q.2.1=b.length-(a+Q.2.1):=(by rw[bn];omega);rw[a2,kP]at a1;rw[a2]at bT;have bq:a+Q.2.1<=b.length:=(by rw[bn]at o1;omega);have ca:=ad a1;have o:Hid (L=fG d b (n-(i+1)) (a+Q.2.1) (A++[Q.1])):=z;have bs:=ad R;have cb:=ad bq;clear D a1 bd o1 o2 o3 o4 R a2 bq z b7;generalize Q.1=ids,Q.2.1=tk at *;have cf:Hid (m.length=i):=ad (by rw[ak.1,bs.out]);have bt:=ad K.out;have ch:Hid (m.length+[(⟨none,0,0⟩:Hd)].length<=2147483648):=(by have:=cf.out;show _<=_;simp;omega);clear K;go_wp2_with fail;apply bt.z;rintro e w3 ⟨rfl,rfl⟩;go_wp2_with fail;apply av.z;rintro e w3 ⟨vi,rfl,a3,a4⟩;obtain⟨ia,ic,rfl⟩:=a3.shape';have Y:=be.fr a4;have ci:=ak.fr a4;have a7:=X.trans a4;have cj:=a3.rebase (show w.heap.size<=J.heap.size from X.size);clear av bt be ak a3;go_wp2_with (at_builtin;refine bA jb rfl (.tmp 30) (.tmp 33) 45 rfl uAM w.heap.size rfl Y [⟨ia,ids.length,ic⟩] _ _ _ rfl rfl rfl ch.out a7.size ?_);intro v4 w4 M;have ck:=(ci.app Y M δ).snoc (x:=⟨ia,ids.length,ic⟩) (bX cj Y M δ);have cl:=M.below Y a7 (au _) a7.size;have R:=bs.out;obtain⟨va,vc,rfl⟩:=M.own.shape';go_wp2;go_roundw;·exact⟨i+1,a+tk,p2,c2,m++[⟨ia,ids.length,ic⟩],A++[ids],ω,γ,cb.out,rfl,ca.out,by rw[aM,R];rfl,M.own,ck,cl,o.out⟩
     ·exact μ
   ·rw[ae F]at z;have az:¬(Q.2.2:Int)=0:=ω;have o:Hid (L=([],Q.2.2)):=z;clear F z aj ah;go_wp2;go_ret2;rw[o.out];exact⟨_,rfl,⟨[],Ow.nil,⟨rfl,λt h=>by simp at h⟩⟩,X⟩
  ·obtain rfl:i=n:=ω;have c1:¬((i:Int)<i):=ω;have o:Hid (L=if a<b.length then([],2)else(A,0)):=ad (by rw[V.out,eA];rfl);obtain⟨oa,oc,rfl⟩:=I.shape';clear V O;by_cases bu:a<b.length;·rw[an bu]at o;have k1:(0:Int)<((b.length-a:Nat):Int):=ω;generalize b.length-a=bl at *;go_wp2;go_ret2;rw[o.out];exact⟨_,rfl,⟨[],Ow.nil,⟨rfl,λt h=>by simp at h⟩⟩,U⟩
   ·rw[ae bu]at o;have k1:b.length-a=0:=ω;rw[k1];go_wp2;go_ret2;rw[o.out];exact⟨_,rfl,⟨m,I,hR⟩,U⟩
