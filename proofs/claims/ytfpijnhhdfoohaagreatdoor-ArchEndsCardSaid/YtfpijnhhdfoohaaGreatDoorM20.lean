/- Parts of the proof of ArchEnds: Uq Ur. -/
import Derived.Test.YtfpijnhhdfoohaaGreatDoorM10
import Derived.Test.YtfpijnhhdfoohaaGreatDoorM13
import Derived.Test.YtfpijnhhdfoohaaGreatDoorM15
import Derived.Test.YtfpijnhhdfoohaaGreatDoorM19
import Derived.Test.YtfpijnhhdfoohaaGreatDoorM01
import Derived.Test.YtfpijnhhdfoohaaGreatDoorM21
set_option linter.unusedVariables false
set_option linter.unusedSectionVars false
set_option linter.unusedSimpArgs false
set_option maxHeartbeats 8000000
set_option maxRecDepth 100000
namespace Go.Fk
theorem Mf(r d:List UInt8)(n f a:Nat)(e:Bool)(h:n<=d.length):dn r n f a d e=(d,a,0):=by
 cases f with
 | zero=>rfl
 | succ f=>rw [dn,ag h]
theorem Mb(r d:List UInt8)(n f a:Nat)(e:Bool)(h:d.length<n)(m:8*r.length<a+4):dn r n (f+1) a d e=([],a,1):=by
 rw [dn,ae (by omega),ag m]
theorem Md(r d:List UInt8)(n f a:Nat)(e:Bool)(h:d.length<n)(m:¬8*r.length<a+4)(o:0<aI r a 4):dn r n (f+1) a d e=dn r n f (a+4) (d++[UInt8.ofNat (aI r a 4)]) false:=by
 rw [dn,ae (by omega),ae m,ag o]
theorem Ma(r d:List UInt8)(n f a:Nat)(e:Bool)(h:d.length<n)(m:¬8*r.length<a+4)(q:aI r a 4=0)(o:8*r.length<a+4+6):dn r n (f+1) a d e=([],a,1):=by
 rw [dn,ae (by omega),ae m,ae (by omega),ag o]
theorem Mg(r d:List UInt8)(n f a:Nat)(e:Bool)(h:d.length<n)(m:¬8*r.length<a+4)(z:aI r a 4=0)(o:¬8*r.length<a+4+6)(q:e=true\/n - d.length<=aI r (a+4) 6):dn r n (f+1) a d e=([],a,7):=by
 rw [dn,ae (by omega),ae m,ae (by omega),ae o,ag q]
theorem Mc(r d:List UInt8)(n f a:Nat)(e:Bool)(h:d.length<n)(m:¬8*r.length<a+4)(z:aI r a 4=0)(o:¬8*r.length<a+4+6)(q:¬(e=true\/n - d.length<=aI r (a+4) 6)) :
  dn r n (f+1) a d e=dn r n f (a+4+6) (d++List.replicate (aI r (a+4) 6+1) 0) (decide (aI r (a+4) 6+1<64)):=by
 rw [dn,ae (by omega),ae m,ae (by omega),ae o,ae q]
end Go.Fk
namespace Go.Proofs.YtfpijnhhdfoohaaGreatDoor
open Go.RowKit Go.Fk
theorem EM(B base n a k:Nat)(v:Value)(l:List UInt8)(w:World)(d:dp w B base v l n a)(F:l.length<=1000000)(R:k<=64) :
  Calls Tryz.prog 264 #[.pointer (some ⟨B,0,none⟩),N k] w fun e G=>e=.returned (.tuple #[.int .u64 ((if n<a+k then 0 else Fk.aI l a k:Nat):Int),.int .i64 ((if n<a+k then 1 else 0:Nat):Int)])/\dp G B base v l n (if n<a+k then a else a+k)/\ah (fun b=>b=B) w G:=by
 have I:=ad (pZ B base n a l w d.f F);have ap:n<=8000000:=by have:=d.eq;omega
 have k1:¬(k:Int)<0:=by omega
 have k2:¬(64:Int)<k:=by omega
 by_cases h:n<a+k;· rw [ag h,ag h,ag h];have U:=ad d;have k3:(n:Int) - a<k:=(by omega);clear d h;go_enter Tryz.func264, Tryz.ntmps264;go_wp2_with fail;refine(I.out).mono ?_;rintro e q ⟨rfl,o⟩;go_wp2_with fail;go_ret2;exact⟨rfl,U.out.fr o.fr,o.fr.chg _⟩
 · rw [ae h,ae h,ae h];have k3:¬(n:Int) - a<k:=(by omega);have J:=ad (fun W (V:Fr w W)=>uP B base n a a k l W (d.f.fr V) F R d.le);have hw:IntKind.i64.wrap ((a:Int)+k)=(a:Int)+k:=aw _ (by omega);obtain⟨z,K,L,a2⟩:=d;have X:=ad L;have Y:Hid (a+k<=n):=(by show _<=_;omega);have Z:=K.ne_cells z (by decide);clear L h;generalize Fk.aI l a k=x at *;go_enter Tryz.func264, Tryz.ntmps264;go_wp2_with fail;refine(I.out).mono ?_;rintro e q ⟨rfl,o⟩;have aa:=o.fr.heap z;have c2:=af aa 2 rfl;have M:=ad (fun m=>J.out (q.drewN m) (o.fr.drewN m));clear J;go_wp2_with fail;go_quiet ((go_at_call 278;exact mH (M.out _)));have A:Fr w (q.drewN nq):=o.fr.drewN nq;generalize q.drewN nq=O at *;have D:=A.heap z;have d2:=af D 2 rfl;have z2:=al D 2;have Q:=ao O ⟨B,2,none⟩ (.int .i64 ((a:Int)+k));have ab:=a8 D 2 (.int .i64 ((a:Int)+k));have ac:=(K.fr A).chg Q (fun i hi e=>Z (by rw [hi,show i=B from e]));have ak:ah (fun b=>b=B) w (O.setCell ⟨B,2,none⟩ (.int .i64 ((a:Int)+k))):=(A.chg _).trans Q fun _ _ h=>h;clear M c2;go_wp2_with fail;go_ret2;exact⟨rfl,⟨ab,ac,X.out,Y.out⟩,ak⟩
theorem S4(B base Z a n:Nat)(v:Value)(r:List UInt8)(w:World)(G:dp w B base v r Z a)(hl:r.length<=1000000)(hn:n<=300) :
  Calls Tryz.prog 275 #[.pointer (some ⟨B,0,none⟩),N n] w fun e w'=>∃ u,e=.returned (.tuple #[u,.int .i64 ((bi r n a).2.2:Int)])/\Ow w' w.heap.size eB u (bi r n a).1/\ah (fun b=>b=B) w w'/\((bi r n a).2.2=0->dp w' B base v r Z (bi r n a).2.1/\(bi r n a).1.length=n/\cI (bi r n a).1=true/\∀ c∈(bi r n a).1,c.toNat<=15):=by
 have KR:=ad (fun X (h:dn r n n a [] false=X) (h2:¬X.2.2=0)=>(show bi r n a=X by unfold bi;rw [h,ae h2]));have KE:=ad (fun d m (h:dn r n n a [] false=(d,m,0))=>(show bi r n a=if cI d then(d,m,0)else([],a,7) by unfold bi;rw [h];rfl));have c3:=G.eq;have bu:∀ k,v.ownBlock=some k->k<w.heap.size:=fun k h=>(G.o.lt k h).2;have bB:=ad (Mf r);have bL:=ad (Mb r);have bR:=ad (Md r);have bT:=ad (Ma r);have ca:=ad (Mg r);have cb:=ad (Mc r);have bv:=ad (fun a k W h A=>EM B base Z a k v r W h hl A);have bx:=ad (fun a k=>nD r a k);have HI:Hid (∃ (f:Nat) (d:List UInt8),dn r n n a [] false=dn r n f a d false/\n<=f+d.length/\d=[]):=⟨n,[],rfl,by simp,rfl⟩;generalize bi r n a=LR at *;generalize dn r n n a [] false=G0 at *;have c5:B<w.heap.size:=(aM.1 G.h).1;have HC:=ad G;have j1:¬(n:Int)<0:=by omega
 have j2:¬(300:Int)<n:=by omega
 clear G;go_enter Tryz.func275, Tryz.ntmps275;go_wp2_with (at_make;refine rG eB rfl (.const (.int .i64 0)) (.tmp 18) 22 rfl Tryz.underlying22 .i64 .i64 _ n rfl rfl rfl (by omega) w.heap.size (am _) ?_);intro w1 b2 b3;have ba:Fr w w1:=Fr.grown (Fr.refl w) b3 (am _) (fun k e=>by cases e);have b4:=HC.out.fr ba;clear b3 HC;go_wp2_with fail;go_loopw [6,7] (fun uv sv wr=>∃ (f m:Nat) (d:List UInt8) (q:Bool),sv=.bool q/\Hid (G0=dn r n f m d q)/\n<=f+d.length/\d.length<=n/\Hid (∀ c∈d,c.toNat<=15)/\Ow wr w.heap.size eB uv d/\dp wr B base v r Z m/\ah (fun b=>b=B) w wr) (fun uv _ _=>n - rQ uv);case atStart=>obtain⟨f,d,h1,h2,rfl⟩:=HI.out;exact⟨f,a,[],false,rfl,h1,h2,an _,(fun c h=>(gz h).elim),b2,b4,ba.chg _⟩
 case round=>
  clear b2 b4 ba HI;obtain⟨f,m,d,q,rfl,HG,c8,c9,a1,F,hC,U⟩:=hrel;obtain⟨p,z,rfl⟩:=F.shape';by_cases ak:d.length<n
  · obtain⟨f,rfl⟩:∃ g,f=g+1:=⟨f - 1,by omega⟩;have i1:(d.length:Int)<n:=(by omega);have M:=ad (bv.out m 4 wr hC (by omega));have cB:=hC.le;by_cases h4:Z<m+4;· rw [ag h4,ag h4,ag h4]at M;have o:=ad (KR.out _ (HG.out.trans (bL.out d n f m q ak (by omega))) (by simp));clear F hC;go_wp2_with fail;refine(M.out).mono ?_;rintro e I ⟨rfl,O,D⟩;go_wp2_with fail;go_ret2;rw [o.out];exact⟨_,rfl,Ow.nil,U.trans D fun _ _ h=>h,fun h=>by cases h⟩
    · rw [ae h4,ae h4,ae h4]at M;have hx:=bx.out m 4;by_cases h0:0<Fk.aI r m 4
      · have o:=ad (HG.out.trans (bR.out d n f m q ak (by omega) h0));have ck:Hid (Fk.aI r m 4<16):=hx;clear hx;generalize Fk.aI r m 4=x at *;have hx:=ck.out;have cE:IntKind.u8.wrap (x:Int)=(x:Int):=(by simp [IntKind.wrap,IntKind.bits,IntKind.signed];omega);have j3:(0:Int)<x:=(by omega);have cl:Hid (d.length+[UInt8.ofNat x].length<=2147483648):=(by show _<=_;simp;omega);have V:=ad F;clear F hC;go_wp2_with fail;refine(M.out).mono ?_;rintro e I ⟨rfl,O,D⟩;have Y:=V.out.chg D (fun k A e=>by have:=(V.out.lt k A).1;have e:k=B:=e;omega);have J:=U.trans D fun _ _ h=>h;have cm:=J.size;go_wp2_with (at_builtin;refine cW eB rfl (.tmp 34) (.tmp 37) 22 rfl Tryz.underlying22 w.heap.size rfl Y [UInt8.ofNat x] _ _ _ (uL x (by omega)) rfl rfl cl.out cm ?_);intro v4 w4 K;have bd:=O.chg K.chg' (fun e=>by have:=(Y.lt B e).1;omega) (fun k A e=>by have:=bu k A;have:=(Y.lt k e).1;omega);have bf:ah (fun b=>b=B) w w4:=J.trans K.chg' fun i hi e=>(by have:=(Y.lt i e).1;omega);obtain⟨va,vc,rfl⟩:=K.own.shape';go_wp2_with fail;go_roundw;case rel=>exact⟨f,m+4,d++[UInt8.ofNat x],false,rfl,o.out,by simp;omega,by simp;omega,fun c G=>(iZ.1 G).elim (a1.out c) (fun h=>by rw [lT.1 h,lP];omega),K.own,bd,bf⟩
        case measure=>simp [rQ];omega
      · have ac:Fk.aI r m 4=0:=(by omega);rw [ac]at M;have Q:=ad (fun W h=>bv.out (m+4) 6 W h (by omega));by_cases h6:Z<m+4+6;· have o:=ad (KR.out _ (HG.out.trans (bT.out d n f m q ak (by omega) ac (by omega))) (by simp));simp only [ag h6]at Q;clear F hC hx ac h0;go_wp2_with fail;refine(M.out).mono ?_;rintro e I ⟨rfl,O,D⟩;have aj:=ad (Q.out I O);have J:=U.trans D fun _ _ h=>h;clear Q;go_wp2_with fail;refine(aj.out).mono ?_;rintro e w3 ⟨rfl,a3,R⟩;go_wp2_with fail;go_ret2;rw [o.out];exact⟨_,rfl,Ow.nil,J.trans R fun _ _ h=>h,fun h=>by cases h⟩
        · simp only [ae h6]at Q;have hy:=bx.out (m+4) 6;have HA:=ad (ca.out d n f m q ak (by omega) ac (by omega));have bm:=ad (cb.out d n f m q ak (by omega) ac (by omega));have ct:Hid (Fk.aI r (m+4) 6<64):=hy;have V:=ad F;clear F hC hx ac h0 hy;generalize Fk.aI r (m+4) 6=y at *;have hy:=ct.out;have cG:IntKind.i64.wrap ((n:Int) - d.length)=(n:Int) - d.length:=aw _ (by omega);have cL:IntKind.i64.wrap (y:Int)=y:=aw _ (by omega);have cN:IntKind.u64.wrap ((y:Int)+1)=(y:Int)+1:=eu _ (by omega);by_cases L:q=true\/n - d.length<=y
          · have o:=ad (KR.out _ (HG.out.trans (HA.out L)) (by simp));clear HA bm;go_wp2_with fail;refine(M.out).mono ?_;rintro e I ⟨rfl,O,D⟩;have aj:=ad (Q.out I O);have J:=U.trans D fun _ _ h=>h;clear Q
            cases q with
            | true=>go_wp2_with fail;refine(aj.out).mono ?_;rintro e w3 ⟨rfl,a3,R⟩;go_wp2_with fail;go_ret2;rw [o.out];exact⟨_,rfl,Ow.nil,J.trans R fun _ _ h=>h,fun h=>by cases h⟩
            | false=>have j4:(n:Int) - d.length<=y:=(by rcases L with L | L;cases L;omega);go_wp2_with fail;refine(aj.out).mono ?_;rintro e w3 ⟨rfl,a3,R⟩;go_wp2_with fail;go_ret2;rw [o.out];exact⟨_,rfl,Ow.nil,J.trans R fun _ _ h=>h,fun h=>by cases h⟩
          · have o:=ad (HG.out.trans (bm.out L));obtain rfl:q=false:=(by cases q;rfl;exact absurd (.inl rfl) L);have j4:¬(n:Int) - d.length<=y:=fun h=>L (.inr (by omega));clear HA bm L;go_wp2_with fail;refine(M.out).mono ?_;rintro e I ⟨rfl,O,D⟩;have aj:=ad (Q.out I O);have J:=U.trans D fun _ _ h=>h;have Y:=V.out.chg D (fun k A e=>by have:=(V.out.lt k A).1;have e:k=B:=e;omega);clear Q;go_wp2_with fail;refine(aj.out).mono ?_;rintro e w3 ⟨rfl,a3,R⟩;have a4:=Y.chg R (fun k A e=>by have:=(Y.lt k A).1;have e:k=B:=e;omega);have b6:=J.trans R fun _ _ h=>h;obtain⟨v4,w4,hr,K⟩:=Jf (P:=Tryz.prog) eB w3 w.heap.size 22 38 22 .u64 .u64 Tryz.underlying22 Tryz.underlying38 a4 (y+1) (by omega) (by omega) b6.size;rw [show((y+1:Nat):Int)=(y:Int)+1 by omega]at hr;have bd:=a3.chg K.chg' (fun e=>by have:=(a4.lt B e).1;omega) (fun k A e=>by have:=bu k A;have:=(a4.lt k e).1;omega);have bf:ah (fun b=>b=B) w w4:=b6.trans K.chg' fun i hi e=>(by have:=(a4.lt i e).1;omega);obtain⟨va,vc,b8⟩:=K.own.shape';rw [aD,jX]at b8;subst b8;go_wp2_with (at_builtin;refine Lib.wpList_append_run _ rfl (.tmp 57) (.tmp 59) 22 38 rfl _ _ rfl rfl _ _ hr ?_);go_roundw;case rel=>exact⟨f,m+4+6,d++List.replicate (y+1) 0,decide (y+1<64),gS Value.bool (vk.2 (by omega)),o.out,by simp;omega,by simp;omega,fun c G=>(iZ.1 G).elim (a1.out c) (fun h=>by rw [(List.mem_replicate.1 h).2];decide),K.own,bd,bf⟩
            case measure=>simp [rQ];omega
  · have bs:d.length=n:=(by omega);have o:=ad (KE.out d m (HG.out.trans (bB.out d n f m q (by omega))));have HK:=ad (uZ _ d wr F.see (by omega) a1.out);have i2:¬(d.length:Int)<n:=(by omega);have V:=ad F;clear F
    cases av:cI d with
    | true=>rw [av]at HK o;have HN:=ad bs;have c0:=ad av;clear bs av;go_wp2_with fail;refine(HK.out).mono ?_;rintro e I ⟨rfl,a0⟩;go_wp2_with fail;go_ret2;rw [o.out];exact⟨_,rfl,V.out.fr a0,U.trans (a0.chg _) fun _ _ h=>h,fun _=>⟨hC.fr a0,HN.out,c0.out,a1.out⟩⟩
    | false=>rw [av]at HK o;clear bs av;go_wp2_with fail;refine(HK.out).mono ?_;rintro e I ⟨rfl,a0⟩;go_wp2_with fail;go_ret2;rw [o.out];exact⟨_,rfl,Ow.nil,U.trans (a0.chg _) fun _ _ h=>h,fun h=>by cases h⟩
end Go.Proofs.YtfpijnhhdfoohaaGreatDoor
namespace Go.Proofs.YtfpijnhhdfoohaaGreatDoor
open Go.RowKit Go.Fk
def yi:Option Nat->Value | some s=>.tuple #[N s,.bool true] | none=>.tuple #[N 0,.bool false]
theorem Ss(d:List UInt8)(base g x l:Nat)(c:Nat->Value)(w:World)(h:df w base g d d.length c)(hn:d.length<=300)(K:cI d=true)(B:∀ c∈d,c.toNat<=15)(m:1<=l)(O:l<=15)(hx:x<=1000000) :
  Calls Tryz.prog 290 #[.pointer (some ⟨g,0,none⟩),.int .u64 (x:Int),N l] w fun e w'=>e=.returned (yi (jM d x l))/\w'=w:=by
 have k1:w.cell? ⟨g,2+l,none⟩=some (N (fM d d.length l)):=h.arr.cell (2+l) (by omega) (h.first l m (by omega));have k2:w.cell? ⟨g,18+l,none⟩=some (N (aB d l)):=h.arr.cell (18+l) (by omega) (by rw [h.many l m (by omega),dO]);have D:=h.syms l m (by omega);obtain⟨p,z,Q⟩:=D.shape';have a3:(sM d d.length l).length=aB d l:=by rw [wC d _ l (am _),dO]
 have k3:w.cell? ⟨g,34+l,none⟩=some (.slice p (sM d d.length l).length z):=h.arr.cell (34+l) (by omega) Q;rw [Q]at D;obtain⟨m1,m2⟩:=Df d K B l m O;have G:=ad (NH d K B x l m O);have o:=ad (NG d K B x l m O);have I:=ad (fun i (hi:i<(sM d d.length l).length)=>D.see.cell1 (fun n:Nat=>Value.int .i64 (n:Int)) rfl i hi);have a6:=nL d l;generalize fM d d.length l=F at *;generalize aB d l=M at *;generalize jM d x l=R at *;generalize sM d d.length l=L at *;have a7:IntKind.i64.wrap (x:Int)=x:=aw _ (by omega);have Y:IntKind.i64.wrap ((x:Int) - F)=(x:Int) - F:=aw _ (by omega);have l1:(0:Int)<=l:=by omega
 have l2:(l:Int)<16:=by omega
 clear h Q D B;by_cases hF:F<=x
 · by_cases U:x - F<M;· obtain⟨s,hs,V,A⟩:=G.out hF U;obtain⟨b,bc,cp,ak,Z⟩:=I.out (x - F) (by omega);cases ak;have aa:L[x - F]'(by omega)=s:=(by rw [bE (by omega)]at V;exact jy V);rw [aa]at Z;subst A;obtain⟨q,J⟩:∃ q,q=x - F:=⟨_,rfl⟩;rw [<- J]at Z U;have X:(x:Int) - F=q:=(by omega);rw [X]at Y;have q1:¬(q:Int)<0:=(by omega);have q2:¬(M:Int)<=q:=(by omega);have q3:(q:Int)<L.length:=(by omega);have q4:(0:Int)<=q:=(by omega);clear G o I V aa J;go_enter Tryz.func290, Tryz.ntmps290;go_wp2_with fail;go_ret2;exact⟨rfl,rfl⟩
   · have A:=o.out (fun h=>U h.2);subst A;obtain⟨q,J⟩:∃ q,q=x - F:=⟨_,rfl⟩;have X:(x:Int) - F=q:=(by omega);rw [X]at Y;have q1:¬(q:Int)<0:=(by omega);have q2:(M:Int)<=q:=(by omega);clear G o I J;go_enter Tryz.func290, Tryz.ntmps290;go_wp2_with fail;go_ret2;exact⟨rfl,rfl⟩
 · have A:=o.out (fun h=>hF h.1);subst A;have q1:(x:Int) - F<0:=(by omega);clear G o I;go_enter Tryz.func290, Tryz.ntmps290;go_wp2_with fail;go_ret2;exact⟨rfl,rfl⟩
theorem Sw (m : List UInt8) (base g y l : Nat) (c : Nat → Value) (w : World) (h : df w base g m m.length c) (hn : m.length ≤ 300) (V : cI m = true) (O : ∀ c ∈ m, c.toNat ≤ 15) (z : l ≤ 15) (hy : y ≤ 32768) :
    Calls Tryz.prog 292 #[.pointer (some ⟨g,0,none⟩),.int .u64 (y:Int),N l] w fun e w'=>e=.returned (.bool (mP m y l))/\Qt w w':=by
  have a6:=ad (fun k=>Kp m V O y l k);have a7:=ad (B5 m V O y l);have HB:Hid (∀ k,rn m y l k=(decide (0<aB m k) && decide (y*2 ^ (k - l)<fM m m.length k+aB m k) && decide (fM m m.length k<(y+1)*2 ^ (k - l)))):=fun k=>rfl;have HC:=ad (fun k (o:1<=k) (z:k<=15)=>(⟨h.arr.cell (2+k) (by omega) (h.first k o (by omega)),h.arr.cell (18+k) (by omega) (by rw [h.many k o (by omega),dO])⟩:w.cell? ⟨g,2+k,none⟩=some (N (fM m m.length k))/\w.cell? ⟨g,18+k,none⟩=some (N (aB m k))));have HL:=ad (fun k (o:1<=k) (z:k<=15)=>Df m V O k o z);generalize mP m y l=R at *;generalize rn m y l=G at *;have bc : Hid (∀ k, l < k → k ≤ 15 → 2 ^ (k - l) ≤ 32768 ∧ 0 < 2 ^ (k - l)) := fun k o z => ⟨by
    have : (2 : Nat) ^ (k - l) ≤ 2 ^ 15 := ep (by omega) (by omega)
    omega, Nat.pow_pos (by omega)⟩
  have bk:IntKind.i64.wrap (y:Int)=y:=aw _ (by omega);have bl:IntKind.i64.wrap ((l:Int)+1)=(l:Int)+1:=aw _ (by omega);clear h O;go_enter Tryz.func292, Tryz.ntmps292;go_wp2_with fail;go_loopw [7] (fun X wr=>∃ k:Nat,l<k/\k<=16/\X=N k/\Hid (∀ j,l<j->j<k->G j=false)/\Qt w wr) (fun X _=>16 - (intOf X).toNat);case atStart=>exact⟨l+1,by omega,by omega,by go_num,fun j o z=>absurd o (by omega),Qt.refl _⟩
  case round=>
    obtain⟨k,ac,bm,rfl,I,A⟩:=hrel;by_cases Q:k<=15
    · obtain⟨k1,k2⟩:=HC.out k (by omega) Q;replace k1:=A.fr.cell k1;replace k2:=A.fr.cell k2;obtain⟨m1,m2⟩:=HL.out k (by omega) Q;obtain⟨Y,p2⟩:=bc.out k ac Q;have q:=ad (HB.out k);have J:=a6.out k ac Q;obtain⟨d,hd⟩:∃ d,d=k - l:=⟨_,rfl⟩;have bv:IntKind.i64.wrap ((k:Int) - l)=(d:Int):=(by rw [aw _ (by omega)];omega);rw [<- hd]at q Y p2;have hT:y*2 ^ d<=32768*32768:=bJ hy Y;have b0:IntKind.i64.wrap ((y:Int)*2 ^ d)=((y*2 ^ d:Nat):Int):=(by rw [show(y:Int)*2 ^ d=((y*2 ^ d:Nat):Int) by simp];exact aw _ (by omega));have b1:IntKind.i64.wrap ((2:Int) ^ d)=((2 ^ d:Nat):Int):=(by rw [show(2:Int) ^ d=((2 ^ d:Nat):Int) by simp];exact aw _ (by omega));rw [iG]at q;generalize fM m m.length k=F at *;generalize aB m k=M at *;have B:Hid (G k=false->∀ j,l<j->j<k+1->G j=false):=fun h j o z=>by
        by_cases e:j=k;· rw [e];exact h
        · exact I.out j o (by omega)
      generalize G k=Gk at *;have b3:IntKind.i64.wrap (((y*2 ^ d:Nat):Int)+((2 ^ d:Nat):Int))=((y*2 ^ d:Nat):Int)+((2 ^ d:Nat):Int):=aw _ (by omega);have b4:IntKind.i64.wrap ((F:Int)+M)=(F:Int)+M:=aw _ (by omega);have b5:d<64:=(by omega);clear hd Y p2;generalize y*2 ^ d=T at *;generalize 2 ^ d=D at *;have i1:(k:Int)<=15:=(by omega);have i2:(k:Int)<16:=(by omega);have i3:(0:Int)<=k:=(by omega);have b9:IntKind.i64.wrap ((k:Int)+1)=(k:Int)+1:=aw _ (by omega);by_cases g1:0<M
      · have K:Hid (decide ((0:Int)<M)=true):=bt (by omega);by_cases g2:T<F+M
        · have U:Hid (decide ((T:Int)<(F:Int)+M)=true):=bt (by omega);by_cases g3:F<T+D;· have Z:Hid (decide ((F:Int)<(T:Int)+D)=true):=bt (by omega);have hR:=J (by rw [q.out,bt g1,bt g2,bt g3];rfl);subst hR;clear q B J I;go_upto_region 5 with fail;have G1:=K.out;have G2:=U.out;have G3:=Z.out;go_quiet (fail);go_wp2_with fail;go_ret;exact⟨rfl,A.trans (Qt.drewN _ _)⟩
          · have Z:Hid (decide ((F:Int)<(T:Int)+D)=false):=aX (by omega);have L:=ad (B.out (by rw [q.out,aX g3];simp));clear q B J I;go_upto_region 5 with fail;have G1:=K.out;have G2:=U.out;have G3:=Z.out;go_quiet (fail);go_wp2_with fail;go_roundw;case rel=>exact⟨k+1,by omega,by omega,by go_num,L,A.trans (Qt.drewN _ _)⟩
            case measure=>simp [intOf];omega
        · have U:Hid (decide ((T:Int)<(F:Int)+M)=false):=aX (by omega);have L:=ad (B.out (by rw [q.out,aX g2];simp));clear q B J I;go_upto_region 5 with fail;have G1:=K.out;have G2:=U.out;go_quiet (fail);go_wp2_with fail;go_roundw;case rel=>exact⟨k+1,by omega,by omega,by go_num,L,A.trans (Qt.drewN _ _)⟩
          case measure=>simp [intOf];omega
      · have K:Hid (decide ((0:Int)<M)=false):=aX (by omega);have L:=ad (B.out (by rw [q.out,aX g1];simp));clear q B J I;go_upto_region 5 with fail;have G1:=K.out;go_quiet (fail);go_wp2_with fail;go_roundw;case rel=>exact⟨k+1,by omega,by omega,by go_num,L,A.trans (Qt.drewN _ _)⟩
        case measure=>simp [intOf];omega
    · obtain rfl:k=16:=(by omega);have hR:=a7.out (fun j o z=>I.out j o (by omega));subst hR;go_wp2_with fail;go_ret;exact⟨rfl,A⟩
end Go.Proofs.YtfpijnhhdfoohaaGreatDoor
