/- Parts of the proof of ArchEnds: Ct. -/
import Derived.Test.YtfpijnhhdfoohaaGreatDoorM38
import Derived.Test.YtfpijnhhdfoohaaGreatDoorM22
import Derived.Test.YtfpijnhhdfoohaaGreatDoorM36
set_option linter.unusedVariables false
set_option linter.unusedSectionVars false
set_option linter.unusedSimpArgs false
set_option maxHeartbeats 8000000
set_option maxRecDepth 100000
namespace Go.Proofs.YtfpijnhhdfoohaaGreatDoor
open Go.RowKit Go.Fk
def pR:au Tryz.prog Hd:=⟨60,1,24,⟨none,0,0⟩,.slice none 0 0,fun h=>[h.v],by kernel_rfl,by decide,by decide,by simp [Value.cells],fun _=>rfl,by intro x u d;simp at d;subst d;rfl⟩
theorem dy{α:Type}{E:au Tryz.prog α}{w d:World}{g base:Nat}{v:Value}{l:List α}{m:Array Value}{T:TypeId}{f:Nat × Nat}(h:Ow w base E v l)(o:w.heap[g]?=some (.cells m T f))(q:T≠E.e)(z:ah (fun k=>k=g) w d):Ow d base E v l:=
 h.chg z fun k A e=>h.ne_cells o q (by rw [A,show k=g from e])
theorem oA{α:Type}{E:au Tryz.prog α}{w d:World}{g base:Nat}{e:List Hd}{m:List (List α)}{o:Array Value}{T:TypeId}{f:Nat × Nat}(h:de w base E e m)(q:w.heap[g]?=some (.cells o T f))(z:T≠E.e)(A:ah (fun k=>k=g) w d):de d base E e m:=
 ⟨h.1,fun t B D=>dy (h.2 t B D) q z A⟩
theorem QZ(v:Value)(q:List (List UInt8))(w:World)(d:ai w eS v q)(F:q.length<=100000000) :
  Calls Tryz.prog 207 #[v] w fun e h=>∃ v,e=.returned v/\Ow h w.heap.size eS v q/\Fr w h:=by
 obtain⟨a,A,rfl,G,I,m⟩:=d.shape
 cases a with
 | none=>obtain⟨rfl,rfl⟩:=m rfl;have B:=fun W=>t6 (P:=Tryz.prog) W 107 9 none 0 0 0 0 Tryz.underlying107;go_enter Tryz.func207, Tryz.ntmps207;go_wp2_with fail;go_ret;exact⟨_,rfl,Ow.nil,Fr.refl w⟩
 | some a=>
  clear m;have o:=n9 eS w #[] ([]:List (List UInt8)) 0 rfl (by simp) (am w.heap.size) rfl;have D:=d.fr ((Fr.refl w).alloc (.cells #[] eS.e));have B:=fun W=>t6 (P:=Tryz.prog) W 107 9 (some a) q.length A 0 0 Tryz.underlying107;go_enter Tryz.func207, Tryz.ntmps207;go_wp2_with (at_builtin;refine jb eS rfl (.tmp 5) (.tmp 6) 107 rfl Tryz.underlying107 w.heap.size rfl o _ _ rfl D ?c1 ?c2 ?_);case c1=>simp;omega
  case c2=>simp
  intro v' w4 z;go_wp2_with fail;go_ret;exact⟨_,rfl,z.own,z.below o ((Fr.refl w).alloc _) (am _) (by simp)⟩
theorem Sh(v:Value)(q:List Nat)(w:World)(d:ai w eJ v q)(F:q.length<=100000000) :
  Calls Tryz.prog 91 #[v] w fun e h=>∃ v,e=.returned v/\Ow h w.heap.size eJ v q/\Fr w h:=by
 obtain⟨a,A,rfl,G,I,m⟩:=d.shape
 cases a with
 | none=>obtain⟨rfl,rfl⟩:=m rfl;have B:=fun W=>t6 (P:=Tryz.prog) W 60 3 none 0 0 0 0 Tryz.underlying60;go_enter Tryz.func91, Tryz.ntmps91;go_wp2_with fail;go_ret;exact⟨_,rfl,Ow.nil,Fr.refl w⟩
 | some a=>
  clear m;have o:=n9 eJ w #[] ([]:List Nat) 0 rfl (by simp) (am w.heap.size) rfl;have D:=d.fr ((Fr.refl w).alloc (.cells #[] eJ.e));have B:=fun W=>t6 (P:=Tryz.prog) W 60 3 (some a) q.length A 0 0 Tryz.underlying60;go_enter Tryz.func91, Tryz.ntmps91;go_wp2_with (at_builtin;refine jb eJ rfl (.tmp 5) (.tmp 6) 60 rfl Tryz.underlying60 w.heap.size rfl o _ _ rfl D ?c1 ?c2 ?_);case c1=>simp;omega
  case c2=>simp
  intro v' w4 z;go_wp2_with fail;go_ret;exact⟨_,rfl,z.own,z.below o ((Fr.refl w).alloc _) (am _) (by simp)⟩
theorem S1(g base size:Nat)(t o:List (List UInt8))(w:World)(h:kB w g base size t o) :
  Calls Tryz.prog 174 #[.pointer (some ⟨g,0,none⟩)] w fun e q=>e=.returned (N t.length)/\w=q:=by
 obtain⟨⟨B,D,d,m,z,A⟩,F⟩:=h;obtain⟨G,I,rfl⟩:=m.shape';have J:=af d 0 rfl;clear d m z A;go_enter Tryz.func174, Tryz.ntmps174;go_wp2_with fail;go_ret;exact⟨rfl,rfl⟩
theorem S2(g base size:Nat)(t A:List (List UInt8))(w:World)(h:kB w g base size t A)(B:t.length<=100000000) :
  Calls Tryz.prog 175 #[.pointer (some ⟨g,0,none⟩)] w fun e m=>∃ v,e=.returned v/\Ow m w.heap.size eS v t/\Fr w m:=by
 obtain⟨⟨D,J,o,d,F,G⟩,K⟩:=h;have q:=ad (QZ D t w d.see B);obtain⟨L,M,rfl⟩:=d.shape';have O:=af o 0 rfl;clear o d F G;go_enter Tryz.func175, Tryz.ntmps175;go_wp2_with fail;refine(q.out).mono ?_;rintro e Q ⟨u,rfl,z,I⟩;obtain⟨R,U,rfl⟩:=z.shape';clear q;go_wp2_with fail;go_ret;exact⟨_,rfl,z,I⟩
theorem Mj(d:Nat)(b:List UInt8)(n i a:Nat)(e:List (List Nat))(h:i<n):fp d b (n - i) a e=if(dX d (b.drop a)).2.2=0 then(if(dX d (b.drop a)).1=[]then([],2)else fp d b (n - (i+1)) (a+(dX d (b.drop a)).2.1) (e++[(dX d (b.drop a)).1]))else([],(dX d (b.drop a)).2.2):=by
 rw [show n - i=(n - (i+1))+1 by omega,fp]
theorem Kc(n d:Nat)(hb:d<=20000)(v:Value)(b:List UInt8)(w:World)(F:ai w eB v b)(hl:b.length<=1000000)(hn:n<=100000000) :
  Calls Tryz.prog 173 #[N n,N d,v] w fun e G=>∃ u,e=.returned (.tuple #[u,.int .i64 ((fp d b n 0 []).2:Int)])/\(∃ m,Ow G w.heap.size pR u m/\de G w.heap.size eJ m (fp d b n 0 []).1)/\Fr w G:=by
 obtain⟨L,hL⟩:∃ L,L=fp d b n 0 []:=⟨_,rfl⟩;rw [<- hL];have HL:Hid (L=fp d b (n - 0) 0 []):=hL;clear hL;have bL:=ad (Mj d b n);have bR:=ad (fun v q W F (hq:q.length<=1000000)=>Sy d hb v q W F hq);have bT:=ad (fun q h=>Dk d q h);obtain⟨a0,bs,rfl,_⟩:=F.shape;have bu:ai w eB (.slice a0 b.length bs) (b.drop 0):=F;clear F;go_enter Tryz.func173, Tryz.ntmps173;go_wp2_with fail;go_loopw [2,8,13] (fun bv ov iv wr=>∃ (i a:Nat) (p:Option Addr) (c:Nat) (m:List Hd) (A:List (List Nat)),i<=n/\iv=N i/\a<=b.length/\bv=.slice p (b.length - a) c/\ai w eB (.slice p (b.length - a) c) (b.drop a)/\A.length=i/\Ow wr w.heap.size pR ov m/\de wr w.heap.size eJ m A/\Fr w wr/\Hid (L=fp d b (n - i) a A)) (fun _ _ iv _=>n - (intOf iv).toNat);case atStart=>exact⟨0,0,a0,bs,[],[],an _,rfl,an _,rfl,bu,rfl,Ow.nil,⟨rfl,fun t h=>by simp at h⟩,Fr.refl _,HL.out⟩
 case round=>
  clear bu HL;obtain⟨i,a,p,c,m,A,hi,rfl,ha,rfl,O,R,I,hR,U,V⟩:=hrel;by_cases cc:i<n
  · have i1:(i:Int)<n:=(by omega);have cf:(b.drop a).length=b.length - a:=aU ..;have bx:=ad (bR.out _ (b.drop a) wr (O.fr U) (by omega));have b0:=ad (bL.out i a A cc);have ak:=ad (bT.out (b.drop a));obtain⟨oa,oc,rfl⟩:=I.shape';have z:=ad (V.out.trans b0.out);have b1:=O;clear V b0 O;generalize hq:dX d (b.drop a)=Q at *;clear hq;go_wp2_with fail;refine(bx.out).mono ?_;rintro e J ⟨pv,rfl,ap,av⟩;have b2:=I.fr ap;have a1:=hR.fr ap;have X:=U.trans ap;clear bx I hR;by_cases D:Q.2.2=0
    · rw [ag D]at z;obtain⟨g,base,rfl,cB,a2⟩:=av D;obtain⟨o1,o2,o3,o4⟩:=ak.out D;have K:=ad (EP g base Q.1 J a2);have a5:=ad (Sz g base Q.1 J a2 (fun x hx=>by have:=o4 x hx;omega) (by omega));have a6:((Q.2.2:Nat):Int)=0:=(by omega);rw [a6]at *;clear D a6 av a2 ak;by_cases B:Q.1=[];· rw [ag B]at z;have b4:((Q.1.length:Nat):Int)=0:=(by rw [B];rfl);have o:Hid (L=([],2)):=z;rw [B]at K;have cm:Hid (Calls Tryz.prog 205 #[.pointer (some ⟨g,0,none⟩)] J fun e G=>e=.returned (.int .i64 0)/\J=G):=K.out;clear B b4 K a5 o3 o4;go_wp2_with fail;refine(cm.out).mono ?_;rintro e w3 ⟨rfl,rfl⟩;go_wp2_with fail;go_ret2;rw [o.out];exact⟨_,rfl,⟨[],Ow.nil,⟨rfl,fun t h=>by simp at h⟩⟩,X⟩
      · rw [ae B]at z;have b4:¬((Q.1.length:Nat):Int)=0:=(by intro e;exact B (ja (by omega)));obtain⟨p2,c2,cp,a7⟩:=iy eB 22 Tryz.underlying22 b1 Q.2.1 o1;have aC:(b.drop a).length - Q.2.1=b.length - (a+Q.2.1):=(by rw [aU];omega);rw [aC,mF]at a7;rw [aC]at cp;have b6:a+Q.2.1<=b.length:=(by rw [aU]at o1;omega);have cq:=ad a7;have o:Hid (L=fp d b (n - (i+1)) (a+Q.2.1) (A++[Q.1])):=z;have b7:=ad R;have cs:=ad b6;clear B a7 b1 o1 o2 o3 o4 R aC b6 z cf;generalize Q.2.1=tk at *;generalize Q.1=Y at *;have cu:Hid (m.length=i):=(by show _=_;rw [a1.1,b7.out]);have b8:=ad K.out;have cv:Hid (m.length+[(⟨none,0,0⟩:Hd)].length<=2147483648):=(by have:=cu.out;show _<=_;simp;omega);clear K;go_wp2_with fail;refine(b8.out).mono ?_;rintro e w3 ⟨rfl,rfl⟩;go_wp2_with fail;refine(a5.out).mono ?_;rintro e w3 ⟨vi,rfl,ba,bb⟩;obtain⟨ia,ic,rfl⟩:=ba.shape';have Z:=b2.fr bb;have c0:=a1.fr bb;have bf:=X.trans bb;have c1:=ba.rebase (show w.heap.size<=J.heap.size from X.size);clear a5 b8 b2 a1 ba;go_wp2_with (at_builtin;refine cW pR rfl (.tmp 30) (.tmp 33) 108 rfl Tryz.underlying108 w.heap.size rfl Z [⟨ia,Y.length,ic⟩] _ _ _ rfl rfl rfl cv.out bf.size ?_);intro v4 w4 M;have c3:=(c0.app Z M (by decide)).snoc (x:=⟨ia,Y.length,ic⟩) (fX c1 Z M (by decide));have c4:=M.below Z bf (am _) bf.size;have R:=b7.out;obtain⟨va,vc,rfl⟩:=M.own.shape';go_wp2_with fail;go_roundw;case rel=>exact⟨i+1,a+tk,p2,c2,m++[⟨ia,Y.length,ic⟩],A++[Y],by omega,by go_num,cs.out,rfl,cq.out,by rw [aD,R];rfl,M.own,c3,c4,o.out⟩
        case measure=>simp [intOf];omega
    · rw [ae D]at z;have a6:¬(Q.2.2:Int)=0:=(by omega);have o:Hid (L=([],Q.2.2)):=z;clear D z av ak;go_wp2_with fail;go_ret2;rw [o.out];exact⟨_,rfl,⟨[],Ow.nil,⟨rfl,fun t h=>by simp at h⟩⟩,X⟩
  · obtain rfl:i=n:=(by omega);have cN:¬((i:Int)<i):=(by omega);have o:Hid (L=if a<b.length then([],2)else(A,0)):=(by show _=_;rw [V.out,gu];rfl);obtain⟨oa,oc,rfl⟩:=I.shape';clear V O;by_cases b9:a<b.length;· rw [ag b9]at o;have k1:(0:Int)<((b.length - a:Nat):Int):=(by omega);generalize b.length - a=bl at *;go_wp2_with fail;go_ret2;rw [o.out];exact⟨_,rfl,⟨[],Ow.nil,⟨rfl,fun t h=>by simp at h⟩⟩,U⟩
    · rw [ae b9]at o;have k1:b.length - a=0:=(by omega);rw [k1];go_wp2_with fail;go_ret2;rw [o.out];exact⟨_,rfl,⟨m,I,hR⟩,U⟩
end Go.Proofs.YtfpijnhhdfoohaaGreatDoor
