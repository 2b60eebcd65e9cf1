/- Parts of the proof of ArchPacks: Y8 Y9 YA V1 D0 YB YC V2. -/
import Derived.Test.YtdamnfpigajmoaaGreatDoorM30
import Derived.Test.YtdamnfpigajmoaaGreatDoorM36
import Derived.Test.YtdamnfpigajmoaaGreatDoorM32
import Derived.Test.YtdamnfpigajmoaaGreatDoorM11
import Derived.Test.YtdamnfpigajmoaaGreatDoorM29
import Derived.Test.YtdamnfpigajmoaaGreatDoorM14
import Derived.Test.YtdamnfpigajmoaaGreatDoorM07
import Derived.Test.YtdamnfpigajmoaaGreatDoorM18
import Derived.Test.YtdamnfpigajmoaaGreatDoorM26
set_option linter.unusedVariables false
set_option linter.unusedSectionVars false
set_option linter.unusedSimpArgs false
set_option maxHeartbeats 8000000
set_option maxRecDepth 100000
namespace Go.Proofs.YtdamnfpigajmoaaGreatDoor
open Go.RowKit Go.Fk
theorem jz{w w':World}{base g:Nat}{T:TypeId}{rest:List Value}{d:Value}{l:List UInt8}(h:bK w base g T rest d l)(e:Fr w w'):bK w' base g T rest d l:=⟨e.heap h.1,h.2.1.fr e,h.2.2⟩
theorem zY(v:Value)(d:List Nat)(base g:Nat)(T:TypeId)(rest:List Value)(z:Value)(l:List UInt8)(w:World)(hs:af w eV v d)(G:d.length<=300)(a2:∀ x∈d,x<4294967296)(I:bK w base g T rest z l)
  (hT:T≠5/\T≠231/\T≠3) (hl:l.length<=900000000) (hsz:base<=w.heap.size) :
  Calls Tryz.prog 146 #[.pointer (some ⟨g,0,none⟩),v] w fun e w'=>∃ cv J b,e=.returned cv/\iP w' b cv (aY d) g J/\bK w' base g T rest J (l++fO (aY d))/\aA g z J w w':=by
 have bk:=ad (KV v d w hs G a2);have K:=oR d;have L:=oS d;have b3:=I.2.2.1;have X:=ad (fun y W b2 hO bt A m hb=>Lb y (aY d) b2 base g T hT.1 rest z l W bt hO A (by rw [K];exact G) L m hl hb);have Y:=ad (fun y W M m=>La y (aY d) g W M (by rw [K];exact G) L m);have HN:=ad (fun y W M m=>Lh y (aY d) W M (by rw [K];exact G) L m);have a5:=ad (fun y W M m=>Lg y (aY d) W M (by rw [K];exact G) L m);have a6:fO (aY d)=if cH (aY d)then cS (aY d)else []:=rfl;have a7:=ad a6;clear hs a6 a2;generalize aY d=a at *;have Z:=ad (fun k o=>(I.2.1.lt k o).2);clear K L;go_enter Tryz.func146, Tryz.ntmps146;go_wp2_with fail;refine bk.out.mono ?_;rintro e U ⟨y,rfl,q,V⟩;obtain⟨la,lc,rfl⟩:=q.shape';have O:=jz I V;have A:(Value.slice la a.length lc).ownBlock=none\/(Value.slice la a.length lc).ownBlock≠z.ownBlock:=by
  cases o:(Value.slice la a.length lc).ownBlock with
  | none=>exact .inl rfl
  | some k=>exact .inr fun e=>by have D:=(q.lt k o).1;have h2:=Z.out k e.symm;omega
 cases m:cH a with
 | true=>
  have Q:=ad (X.out _ U _ q O A m (aq hsz V.size));have bb := ad (fun W J (bx : aA g z J U W) => (q.chg bx.1 fun k o e => by
   rcases e with e | e;· exact q.ne_cells O.1 hT.1 (by rw [o, e])
   · rcases A with D | D;· rw [D] at o; cases o
     · exact D (o.trans e.symm)).see)
  clear I O A q X Y a5 Z;go_wp2_with fail;refine Q.out.mono ?_;rintro e F ⟨rfl,bc,ac,bd⟩;have aj:=ad (HN.out _ F (bb.out F bc bd) m);clear Q bb;go_wp2_with fail;refine aj.out.mono ?_;rintro e w3 ⟨g2,c,rfl,hH,R⟩;go_wp2_with fail;go_ret;refine⟨_,bc,F.heap.size,rfl,.inr ⟨m,g2,c,rfl,hH,?_,?_⟩,?_,?_⟩;· have D:=hH.up;have h2:=(aR.1 ac.1).1;omega
  · cases o:(c 0).ownBlock with
    | none=>exact .inl rfl
    | some k=>exact .inr fun e=>by have D:=(hH.own0.lt k o).1;have h2:=(ac.2.1.lt k e.symm).2;omega
  · rw [a7.out,m];exact jz ac R
  · exact aA.fr V (bd.frR R)
 | false=>have Q:=ad (Y.out _ U q.see m);have bf:=ad (fun W (h:Fr U W)=>(q.fr h).see);have b1:=ad O;clear I O A q X Y HN Z;go_wp2_with fail;refine Q.out.mono ?_;rintro e F ⟨rfl,a0⟩;have aj:=ad (a5.out _ F (bf.out F a0) m);clear Q bf;go_wp2_with fail;refine aj.out.mono ?_;rintro e w3 ⟨rfl,R⟩;go_wp2_with fail;go_ret;refine⟨_,z,0,rfl,.inl ⟨m,rfl⟩,?_,(aA.refl g z w).frR ((V.trans a0).trans R)⟩;have e:fO a=[]:=(by rw [a7.out,m];rfl);rw [e,dm];exact jz (jz b1.out a0) R
theorem nr(a:List UInt8)(s:Nat)(h:∀ c∈a,c.toNat<=15):(cU a s).length<=15:=by
 unfold cU;split;· exact Az a s h
 · simp
theorem wM(A B:List UInt8)(t:bF)(h:t.len=0):iU A B t=cU A (a9 t).sym:=by unfold iU;rw [ai h,dm]
theorem wL(A B:List UInt8)(t:bF)(h:t.len≠0):iU A B t=cU A (a9 t).sym++(aW (a9 t).len ((a9 t).sym - 257)++(cU B (a9 t).dist++aW (a9 t).far (a9 t).dist)):=by unfold iU;rw [ah h]
theorem yp(t:bF)(h:ft t=true)(d:t.len≠0):(a9 t).len<2 ^ ((a9 t).sym - 257)/\(a9 t).far<2 ^ (a9 t).dist:=by
 obtain⟨_,m,o,e,q⟩:=nB t h d;unfold a9;rw [ah d];refine⟨?_,xP _ e⟩;show fe (t.len - 2)<2 ^ (257+dB (t.len - 2) - 257);rw [show 257+dB (t.len - 2) - 257=dB (t.len - 2) by omega];exact xP _ (by omega)
theorem Cr(t:bF)(y:ft t=true)(A B:List UInt8)(bA bB:Nat)(G I:Value)(base g:Nat)(T:TypeId)(h:Value)(l:List UInt8)(w:World)(z:bK w base g T [G,I] h l)(h1:iP w bA G A g h)(h2:iP w bB I B g h)
  (hT:T≠5/\T≠231/\T≠3) (hA:A.length<=300) (hB:B.length<=300) (hA15:∀ c∈A,c.toNat<=15) (hB15:∀ c∈B,c.toNat<=15) (hl:l.length<=800000000) (hsz:base<=w.heap.size) :
  Calls Tryz.prog 147 #[.pointer (some ⟨g,0,none⟩),kN t] w fun e w'=>e=.returned (.tuple #[])/\∃ a2,bK w' base g T [G,I] a2 (l++iU A B t)/\aA g h a2 w w':=by
 have cf:Hid (∀ W,Calls Tryz.prog 213 #[kN t] W fun e w'=>e=.returned (.tuple #[.agg #[N (a9 t).sym,N (a9 t).len,N (a9 t).dist,N (a9 t).far],.int .i64 0])/\Fr W w'):=fun W=>AK t W y;have ch:=ad (fun s W h m (hs:s<=1000000) (y:m.length<=900000000) hc z Y=>uB A bA s G base g T [G,I] h m W hc z hA hA15 hs y Y);have cj:=ad (fun s W h m (hs:s<=1000000) (y:m.length<=900000000) hc z Y=>uB B bB s I base g T [G,I] h m W hc z hB hB15 hs y Y);have bf:=ad (fun x n hn hx a2 m W z y Y=>rI x n hn hx base g T [G,I] a2 m W z y Y);have dc:=ad (fun s=>nr A s hA15);have dd:=ad (fun s=>nr B s hB15);have dj:=oJ t y;have dk:=ad (yp t y);have cl:=ad (wM A B t);have cm:=ad (wL A B t);have cn:Fr w (w.alloc (.cells #[.int .u8 (t.lit.toNat:Int),N t.len,N t.dist] 208)):=(Fr.refl w).alloc _;obtain⟨e1,e2,e3,e4,a3,a4⟩:=dj;clear hA15 hB15 hA hB;go_enter Tryz.func147, Tryz.ntmps147;go_wp2_with fail;refine(cf.out _).mono ?_;rintro e J ⟨rfl,co⟩;have bk:=cn.trans co;have cp:Fr J (J.alloc (.cells #[N (a9 t).sym,N (a9 t).len,N (a9 t).dist,N (a9 t).far] 255)):=(Fr.refl J).alloc _;have a5:(J.alloc (.cells #[N (a9 t).sym,N (a9 t).len,N (a9 t).dist,N (a9 t).far] 255)).heap[J.heap.size]? = some (.cells #[N (a9 t).sym,N (a9 t).len,N (a9 t).dist,N (a9 t).far] 255 (0,0)):=au _ _ _ rfl;have Q:=bk.trans cp;have bm:J.heap.size≠g:=by have:=(aR.1 (bk.heap z.1)).1;omega
 generalize dl:(a9 t).sym=o at *;generalize dr:(a9 t).dist=O at *;generalize ds:(a9 t).len=le at *;generalize dv:(a9 t).far=Z at *;clear dl dr ds dv cn co bk cf;go_upto_region 2 with fail;generalize J.alloc (.cells #[N o,N le,N O,N Z] 255)=D at *;generalize J.heap.size=pb at *;have R:=jz z Q;have bt:=h1.fr Q;have cs:=h2.fr Q;have ct:aA g h h w D:=(aA.refl g h w).frR Q;have bu:=aq hsz Q.size;clear z h1 h2 Q cp;have k2:D.cell? ⟨g,2,none⟩=some G:=by rw [aL R.1];rfl
 have p0:=ae a5 0 rfl;have aa:Fr D D.drew:=(Fr.refl D).drew;have cv:=ad (ch.out o D.drew h l (by omega) (by omega) (bt.fr aa) (jz R aa) (aq bu aa.size));go_still_tail 9,(by kernel_rfl);change wpList _ _ _ _ _ D.drew;generalize q:D.drew=WD at *;have U:=ad q;clear q;go_wp2_with fail;refine cv.out.mono ?_;rintro e K ⟨⟨r4,rfl⟩,ab,V,cx⟩;have L:h.ownBlock≠some pb:=R.2.1.ne_cells a5 (by decide);have d:aA g h ab D K:=aA.fr aa cx;have ac:=d.heap a5 bm L;have d2:=bt.step R hT d;have cy:=cs.step R hT d;have bx:=ct.trans d;have bz:=aq bu d.1.size;have cz:(l++cU A o).length<=l.length+15:=by rw [an];have:=dc.out o;omega
 clear cv R bt cs a5 k2 p0 d cx ct bu U L aa;have p0:=ae ac 0 rfl;have p1:=ae ac 1 rfl;by_cases X:t.len=0;· have d3:(o:Int)<256:=(by have:=a3.2 X;omega);have HE:Hid (l++iU A B t=l++cU A o):=(by show _=_;rw [cl.out X]);clear cl cm ch cj bf a3 a4;go_wp2_with fail;refine b6Qb (results_none rfl _ _ _) rfl ?_;exact⟨rfl,ab,by rw [HE.out];exact V,bx⟩
 · have d3:¬(o:Int)<256:=(by have:=a4 X;omega);have e6:257<=o:=a4 X;obtain⟨c0,c1⟩:=dk.out X;obtain⟨m4,b1⟩:∃ m4,m4=l++cU A o:=⟨_,rfl⟩;rw [<- b1]at V cz;have d4:=ad b1;have d5:=ad c1;have a6:Fr K K.drew:=(Fr.refl K).drew;have c3:=ad (bf.out le (o - 257) (by omega) c0 ab m4 K.drew (jz V a6) (by omega) (aq bz a6.size));have d6:(o:Int) - 257=((o - 257:Nat):Int):=(by omega);have d7:IntKind.u64.wrap (le:Int)=le:=aX _ (by omega);have e7:=ad a3;clear a3 a4 b1 c0 c1;go_upto_region 4 with fail;go_still_tail 9,(by kernel_rfl);change wpList _ _ _ _ _ K.drew;generalize q:K.drew=WD at *;have U:=ad q;clear q;go_wp2_with fail;refine c3.out.mono ?_;rintro e F ⟨rfl,a7,av,c4⟩;have L:ab.ownBlock≠some pb:=V.2.1.ne_cells ac (by decide);have d:aA g ab a7 K F:=aA.fr a6 c4;have ba:=d.heap ac bm L;have jh:=cy.step V hT d;have c5:=bx.trans d;have b2:=aq bz d.1.size;have c6:(m4++aW le (o - 257)).length<=l.length+23:=(by rw [an,jm];omega);clear c3 V d2 cy ac p0 p1 d c4 bx bz U L a6 cz d6 d7;obtain⟨m5,b3⟩:∃ m5,m5=m4++aW le (o - 257):=⟨_,rfl⟩;rw [<- b3]at av c6;have d8:=ad b3;clear b3;have k3:F.cell? ⟨g,3,none⟩=some I:=(by rw [aL av.1];rfl);have p2:=ae ba 2 rfl;have a1:Fr F F.drew:=(Fr.refl F).drew;have c7:=ad (cj.out O F.drew a7 m5 (by omega) (by omega) (jh.fr a1) (jz av a1) (aq b2 a1.size));go_upto_region 5 with fail;go_still_tail 9,(by kernel_rfl);change wpList _ _ _ _ _ F.drew;generalize q:F.drew=e9 at *;have U:=ad q;clear q;go_wp2_with fail;refine c7.out.mono ?_;rintro e M ⟨⟨r6,rfl⟩,b4,c8,c9⟩;have L:a7.ownBlock≠some pb:=av.2.1.ne_cells ba (by decide);have d:aA g a7 b4 F M:=aA.fr a1 c9;have cA:=d.heap ba bm L;have d9:=c5.trans d;have dT:=aq b2 d.1.size;have ec:(m5++cU B O).length<=l.length+38:=(by rw [an];have:=dd.out O;omega);clear c7 av jh ba k3 p2 d c9 c5 b2 U L a1 c6;obtain⟨m6,b5⟩:∃ m6,m6=m5++cU B O:=⟨_,rfl⟩;rw [<- b5]at c8 ec;have ef:=ad b5;clear b5;have p2:=ae cA 2 rfl;have p3:=ae cA 3 rfl;have b8:Fr M M.drew:=(Fr.refl M).drew;have ek:=ad (bf.out Z O (by omega) d5.out b4 m6 M.drew (jz c8 b8) (by omega) (aq dT b8.size));have fc:IntKind.u64.wrap (Z:Int)=Z:=aX _ (by omega);go_upto_region 6 with fail;go_still_tail 8,(by kernel_rfl);change wpList _ _ _ _ _ M.drew;generalize q:M.drew=fd at *;have U:=ad q;clear q;go_wp2_with fail;refine ek.out.mono ?_;rintro e W7 ⟨rfl,cF,es,ev⟩;have d:aA g b4 cF M W7:=aA.fr b8 ev;have e0:=d9.trans d;have HE:Hid (l++iU A B t=m6++aW Z O):=(by show _=_;rw [cm.out X,ef.out,d8.out,d4.out];simp);go_wp2_with fail;go_end0;exact⟨rfl,cF,by rw [HE.out];exact es,e0⟩
theorem BC{w:World}{base g:Nat}{T:TypeId}{p q d x:Value}{l:List UInt8}(h:bK w base g T [p,q] d l):bK (w.setCell ⟨g,2,none⟩ x) base g T [x,q] d l/\aA g d d w (w.setCell ⟨g,2,none⟩ x):=
 ⟨⟨by have:=aB h.1 2 x;simpa using this,et h.2.1 h.2.2.1,h.2.2⟩,(aw w ⟨g,2,none⟩ x).mono (fun k _ e=>.inl e),fun _ e=>.inl e⟩
theorem BB{w:World}{base g:Nat}{T:TypeId}{p q d x:Value}{l:List UInt8}(h:bK w base g T [p,q] d l):bK (w.setCell ⟨g,3,none⟩ x) base g T [p,x] d l/\aA g d d w (w.setCell ⟨g,3,none⟩ x):=
 ⟨⟨by have:=aB h.1 3 x;simpa using this,et h.2.1 h.2.2.1,h.2.2⟩,(aw w ⟨g,3,none⟩ x).mono (fun k _ e=>.inl e),fun _ e=>.inl e⟩
theorem iP.ptr{w:World}{b g:Nat}{d e:Value}{a:List UInt8}(h:iP w b d a g e):∃ p,d=.pointer p:=by
 rcases h with⟨_,h⟩ | ⟨_,m,c,h,_⟩;· exact⟨_,h⟩
 · exact⟨_,h⟩
theorem Jf(v:Value)(l:List bF)(w:World)(Q:af w gl v l)(hn:l.length<=32768)(R:∀ t∈l,ft t=true) :
  Calls Tryz.prog 100 #[v] w fun e w'=>∃ u,e=.returned (.tuple #[u,.int .i64 0])/\Ow w' w.heap.size eB u (bM (lk (aY (cJ l)) (aY (dg l)) l))/\Fr w w':=by
 have HS:=ad (fun W (h:Fr w W)=>Q.fr h);have b0:=ad (Lq v l w Q (by omega) R);obtain⟨a0,f6,rfl,f7,dr,f9⟩:=Q.shape;unfold maxLen at dr;have z:205≠5/\205≠231/\205≠3:=by decide
 have b1:∀ x∈cJ l,x<4294967296:=fun x Y=>by obtain⟨k,_,rfl⟩:=gt.1 Y;have:=nh l k;split <;> omega
 have b2:∀ x∈dg l,x<4294967296:=fun x Y=>by obtain⟨k,_,rfl⟩:=gt.1 Y;have:=rt l k;omega
 have b4:(cJ l).length=265:=by simp [cJ]
 have b8:(dg l).length=12:=by simp [dg]
 have Z:(aY (cJ l)).length=265:=by rw [oR,b4]
 have aa:(aY (dg l)).length=12:=by rw [oR,b8]
 have ab:=oS (cJ l);have ac:=oS (dg l);have ds:=ad (fun u base g rest d m W hu o J K=>zY u (cJ l) base g 205 rest d m W hu (by omega) b1 o z J K);have dv:=ad (fun u base g rest d m W hu o J K=>zY u (dg l) base g 205 rest d m W hu (by omega) b2 o z J K);have bA:=ad Z;have d0:=ad aa;have av:=ad ab;have d1:=ad ac;have a1:=qi (aY (cJ l));have a2:=qi (aY (dg l));have d2:=ad (fun k (hk:k<l.length)=>R _ (aH hk));have d3:=ad (fun k=>wK (aY (cJ l)) (aY (dg l)) ab ac (l.take k) (fun t h=>R t (eD h)));have d4:Hid (lk (aY (cJ l)) (aY (dg l)) l=((fO (aY (cJ l))++fO (aY (dg l)))++dW (aY (cJ l)) (aY (dg l)) l)++cU (aY (cJ l)) 256):=rfl;rw [Z]at a1;rw [aa]at a2;generalize aY (cJ l)=A at *;generalize aY (dg l)=B at *;clear Q Z aa ab ac b4 b8 b1 b2 R;generalize d5:fO A=WA at *;generalize d7:fO B=WB at *;clear d5 d7;have bR:=ad a1;have d9:=ad a2;clear a1 a2;have ga:¬(32768:Int)<l.length:=by omega
 go_enter Tryz.func100, Tryz.ntmps100;go_wp2_with fail;refine b0.out.mono ?_;rintro e q ⟨u1,u2,rfl,ca,cb,a3⟩;have hg:(q.alloc (.cells #[.slice none 0 0,N 0,.pointer none,.pointer none] 205)).heap[q.heap.size]? = some (.cells #[.slice none 0 0,N 0,.pointer none,.pointer none] 205 (0,0)):=au _ _ _ rfl;have a4:Fr q (q.alloc (.cells #[.slice none 0 0,N 0,.pointer none,.pointer none] 205)):=(Fr.refl q).alloc _
 have cf:bK (q.alloc (.cells #[.slice none 0 0,N 0,.pointer none,.pointer none] 205)) (q.heap.size+1) q.heap.size 205 [.pointer none,.pointer none] (.slice none 0 0) []:=
  ⟨hg,Ow.nil,by omega,fun c hc=>by cases hc⟩
 have ch:=(ca.fr a4).see;have ef:=ad (fun W (h:Fr q W)=>(cb.fr h).see)
 have a6:Hid (∀ W d,aA q.heap.size (.slice none 0 0) d (q.alloc (.cells #[.slice none 0 0,N 0,.pointer none,.pointer none] 205)) W->Fr q W):=fun W d h=>
  ak.below a4 h.1 a4.size (fun i e => by
   rcases e with e | e
   · exact gZ e.symm
   · cases e)
 have cj:=ad (ds.out u1 _ _ _ _ [] _ ch cf (by simp) (by rw [dp];omega));clear ca cb ch hg cf b0;go_upto_region 7 with fail;generalize q.alloc (.cells #[.slice none 0 0,N 0,.pointer none,.pointer none] 205)=W2 at *;have gb:w.heap.size<=q.heap.size:=a3.size;generalize gc:q.heap.size=g at *;go_wp2_with fail;refine cj.out.mono ?_;rintro e W3 ⟨cv,ge,b3,rfl,bb,L,cl⟩;obtain⟨p3,rfl⟩:=bb.ptr;have e2:W3.cell? ⟨g,2,none⟩=some (.pointer none):=by rw [aL L.1];rfl
 have f2:=az L.1 2;obtain⟨T,bc⟩:=BC (x:=.pointer p3) L;have cm:=bb.step L z bc;have bd:=cl.trans bc;have cn:=a6.out _ _ bd;have co:g+1<=(W3.setCell ⟨g,2,none⟩ (.pointer p3)).heap.size:=(aR.1 T.1).1;have cp:=ad (dv.out u2 _ _ _ _ _ _ (ef.out _ cn) T (by simp;have:=bR.out;omega) co);clear cj bb L cl bc;go_upto_region 8 with fail;generalize W3.setCell ⟨g,2,none⟩ (.pointer p3)=W4 at *;clear e2 f2;go_wp2_with fail;refine cp.out.mono ?_;rintro e W5 ⟨cv,e0,b5,rfl,bf,G,bk⟩;obtain⟨F,rfl⟩:=bf.ptr;have cx:=cm.step T z bk;have e3:W5.cell? ⟨g,3,none⟩=some (.pointer none):=by rw [aL G.1];rfl
 have f3:=az G.1 3;obtain⟨bm,U⟩:=BB (x:=.pointer F) G;have cy:=cx.step G z U;have cz:=bf.step G z U;have c3:=(bd.trans bk).trans U;clear cp cm cx bf T G bk U bd cn co;go_upto_region 9 with fail;generalize W5.setCell ⟨g,3,none⟩ (.pointer F)=W6 at *;clear e3 f3;obtain⟨y,V⟩:∃ y,y=[]++WA++WB:=⟨_,rfl⟩;rw [<- V]at bm;have e5:=ad V;have g0:y.length<=3000:=by rw [V];simp;have:=bR.out;have:=d9.out;omega
 clear V;have e6:=ad (fun t ht d m W o hc I J K=>Cr t ht A B b3 b5 (.pointer p3) (.pointer F) (g+1) g 205 d m W o hc I z (by have:=bA.out;omega) (by have:=d0.out;omega) av.out d1.out J K);go_wp2_with fail;go_loopw [38] (fun iv wr=>∃ (k:Nat) (d:Value),k<=l.length/\iv=N k/\bK wr (g+1) g 205 [.pointer p3,.pointer F] d (y++dW A B (l.take k))/\iP wr b3 (.pointer p3) A g d/\iP wr b5 (.pointer F) B g d/\aA g (.slice none 0 0) d W2 wr) (fun iv _=>l.length - (intOf iv).toNat);case atStart=>exact⟨0,e0,ap _,rfl,by rw [gH];simpa [dW] using bm,cy,cz,c3⟩
 case round=>
  clear bm cy cz c3;obtain⟨k,d,hk,rfl,o,M,X,O⟩:=hrel;have e9:=a6.out _ _ O;have c4:g+1<=wr.heap.size:=(aR.1 o.1).1
  have bt : (y ++ dW A B (l.take k)).length ≤ 2000000 := by rw [an]; have h1 := d3.out k; have h2 : (l.take k).length ≤ l.length := by rw [aV]; omega
                                                            omega
  by_cases bu:k<l.length
  · obtain⟨b,g3,g4,hv,c0,c1,c2⟩:=nf (HS.out wr (a3.trans e9)) k bu;cases hv;have HX:Hid ((y++dW A B (l.take k))++iU A B l[k]=y++dW A B (l.take (k+1))):=(by show _=_;rw [cL bu,wJ,eE]);have fb:=d2.out k bu;generalize l[k]=t at *;have D:Fr wr (wr.alloc (.cells #[.int .u8 (t.lit.toNat:Int),N t.len,N t.dist] 208)):=(Fr.refl wr).alloc _;have c6:=ad (e6.out t fb d _ _ (jz o D) (M.fr D) (X.fr D) (by omega) (aq c4 D.size));have bx:=jz o D;have fc:=M.fr D;have fd:=X.fr D;have fk:=O.frR D;have i1:(0:Int)<=k:=(by omega);have i2:(k:Int)<l.length:=(by omega);clear o M X O bt;obtain⟨mk,c8⟩:∃ mk,mk=y++dW A B (l.take k):=⟨_,rfl⟩;rw [<- c8]at c6 bx HX;clear c8;go_wp2_with fail;refine c6.out.mono ?_;rintro e W7 ⟨rfl,fl,c9,bz⟩;rw [HX.out]at c9;have fm:=fc.step bx z bz;have fn:=fd.step bx z bz;go_wp2_with fail;go_roundw;case rel=>exact⟨k+1,fl,by omega,by go_num,c9,fm,fn,fk.trans bz⟩
    case measure=>simp [intOf];omega
  · obtain rfl:k=l.length:=(by omega);have gB:¬(l.length:Int)<l.length:=(by omega);rw [cu]at o bt;have I:Fr wr wr.drew:=(Fr.refl wr).drew;have cA:=ad (uB A b3 256 (.pointer p3) (g+1) g 205 [.pointer p3,.pointer F] d _ wr.drew (M.fr I) (jz o I) (by have:=bA.out;omega) av.out (by omega) (by omega) (aq c4 I.size));have k2:wr.cell? ⟨g,2,none⟩=some (.pointer p3):=(by rw [aL o.1];rfl);have HW:=ad o;clear M X o;go_upto_region 14 with fail;go_still_tail 7,(by kernel_rfl);change wpList _ _ _ _ _ wr.drew;generalize cF:wr.drew=WD at *;have hb:=ad cF;clear cF;go_wp2_with fail;refine cA.out.mono ?_;rintro e W8 ⟨⟨r8,rfl⟩,da,dc,dd⟩;have di:aA g d da wr W8:=aA.fr I dd;have dj:=a3.trans (a6.out _ _ (O.trans di));have HE:Hid ((y++dW A B l)++cU A 256=lk A B l):=(by show _=_;rw [d4.out,e5.out];simp);have dk:((y++dW A B l)++cU A 256).length<=7999992:=(by rw [an];have:=nr A 256 av.out;omega);have fv:=ad (A6 (g+1) g 205 [.pointer p3,.pointer F] da _ W8 dc dk);clear cA k2 dc dd di O dk bt;go_wp2_with fail;refine fv.out.mono ?_;rintro e W9 ⟨u,rfl,hU,f1⟩;go_wp2_with fail;go_ret2;exact⟨_,rfl,by rw [<- HE.out];exact hU.rebase dj.size,dj.trans f1⟩
def iz(b:List UInt8):List UInt8:=bM (lk (aY (cJ (dN b))) (aY (dg (dN b))) (dN b))
def iK(plain:Bool)(b:List UInt8):List UInt8:=if plain=false/\(iz b).length<b.length then g6 1 b.length (iz b)else g6 0 b.length b
theorem Aq(p:Bool)(b:List UInt8)(h:b.length<1000000000):(iK p b).length<=b.length+25:=by
 unfold iK;split;· rename_i d;have:=zn 1 b.length (iz b) (by omega) (by omega);omega
 · exact zn 0 b.length b (by omega) (by omega)
theorem Dl(v:Value)(l:List UInt8)(w:World)(m:af w eB v l)(I:l.length<=32768) :
  Calls Tryz.prog 57 #[v] w fun e w'=>∃ u,e=.returned (.tuple #[u,.bool (decide ((iz l).length<l.length))])/\Ow w' w.heap.size eB u (iz l)/\Fr w w':=by
 obtain⟨J,K,rfl,_⟩:=m.shape;have A:=ad (KY _ l w m (by omega));have d:=ad (fun u W (h:af W gl u (dN l))=>Jf u (dN l) W h (by have:=zt l 0;unfold dN;omega) (zr l 0));have o:Hid (iz l=bM (lk (aY (cJ (dN l))) (aY (dg (dN l))) (dN l))):=rfl;rw [<- o.out]at d;clear o;generalize iz l=q at *;generalize dN l=t at *;go_enter Tryz.func57, Tryz.ntmps57;go_wp2_with fail;refine A.out.mono ?_;rintro e L ⟨M,rfl,D,y⟩;have F:=ad (d.out _ _ D.see);clear d;go_wp2_with fail;refine F.out.mono ?_;rintro e O ⟨Q,rfl,z,G⟩;obtain⟨R,T,rfl⟩:=z.shape';go_wp2_with fail;go_ret2;exact⟨_,by simp,z.rebase y.size,y.trans G⟩
theorem GA(e:UInt8)(n:Nat)(d:List UInt8):g6 e n d=ay (([e]++ao n++ao d.length)++d):=rfl
theorem Br(p:Bool)(v:Value)(l:List UInt8)(w:World)(A:af w eB v l)(K:l.length<=32768)(ht:bU w) :
  Calls Tryz.prog 33 #[v,.bool p] w fun e w'=>∃ u,e=.returned (.tuple #[u,.int .i64 0])/\Ow w' w.heap.size eB u (iK p l)/\Fr w w':=by
 obtain⟨a0,cb,rfl,cc,cf,bd⟩:=A.shape;have HS:=ad (fun W (h:Fr w W)=>A.fr h);have o:=ad (Dl _ l w A K);have ch:¬(32768:Int)<l.length:=by omega
 have aj:=ad (fun n (h:n<18446744073709551616) W=>jK n h W);have cj:=aG l.length (by omega);have HT:=ad (fun W (h:Fr w W)=>ht.fr h);have cl:IntKind.u64.wrap (l.length:Int)=(l.length:Int):=aX _ (by omega);have bk:Hid (l.length<18446744073709551616):=by show _<_;omega
 have cm:=ad GA;clear A ht bd;have D:Hid (iK p l=if p=false/\(iz l).length<l.length then g6 1 l.length (iz l)else g6 0 l.length l):=rfl;generalize iK p l=T at *;generalize iz l=q at *;go_enter Tryz.func33, Tryz.ntmps33;go_upto_if 16 with fail;go_cut [6,7]from 8 to 23 (fun wv bv wx=>∃ (m:UInt8) (d:List UInt8),wv=Fk.u8 m/\af wx eB bv d/\d.length<=32768/\Hid (T=g6 m l.length d)/\Fr w wx)
 case first=>
  cases p with
  | true=>have y:Hid (T=g6 0 l.length l):=(by show _=_;rw [D.out,ah (by simp)]);go_wp2_with fail;go_meet;exact⟨0,l,rfl,HS.out _ (Fr.refl w),K,y,Fr.refl w⟩
  | false=>
   by_cases F:q.length<l.length;· have y:Hid (T=g6 1 l.length q):=(by show _=_;rw [D.out,ai ⟨rfl,F⟩]);rw [bs F]at o;go_wp2_with fail;refine o.out.mono ?_;rintro e w1 ⟨v1,rfl,L,G⟩;obtain⟨va,vc,rfl⟩:=L.shape';go_wp2_with fail;go_meet;exact⟨1,q,rfl,L.see,by omega,y,G⟩
   · have y:Hid (T=g6 0 l.length l):=(by show _=_;rw [D.out,ah (fun h=>F h.2)]);rw [bi F]at o;go_wp2_with fail;refine o.out.mono ?_;rintro e w1 ⟨v1,rfl,L,G⟩;go_wp2_with fail;go_meet;exact⟨0,l,rfl,HS.out _ G,K,y,G⟩
 case rest=>obtain⟨m,d,rfl,M,cp,HF,hf⟩:=hcut;obtain⟨ba,bc,rfl,_⟩:=M.shape;clear o D;have cv:=aG d.length (by omega);have cx:IntKind.u64.wrap (d.length:Int)=(d.length:Int):=aX _ (by omega);have b0:=ad (aj.out l.length bk.out);have b1:=ad (aj.out d.length (by omega));have a1:=iC eB wc #[Fk.u8 m] [m] 1 rfl (by simp [maxLen]) (ag wc.heap.size);have b2:Fr wc (wc.alloc (.cells #[Fk.u8 m] 5)):=(Fr.refl wc).alloc _;have O:Hid (T=ay (([m]++ao l.length++ao d.length)++d)):=HF;generalize ao l.length=nb at *;generalize ao d.length=a3 at *;go_wp2_with fail;refine(b0.out _).mono ?_;rintro e w2 ⟨v2,rfl,Q,a4⟩;obtain⟨p2,z2,rfl⟩:=Q.shape';go_wp2_with fail;refine(b1.out _).mono ?_;rintro e w3 ⟨v3,rfl,R,U⟩;obtain⟨p3,z3,rfl⟩:=R.shape';have a5:=(a1.fr (a4.trans U)).see;have a6:=ad (uO _ _ _ [m] nb a3 w3 a5 (Q.fr U).see R.see (by simp;omega));have b4:=b2.trans (a4.trans U);clear a1 a5 Q R;go_wp2_with fail;refine a6.out.mono ?_;rintro e w4 ⟨v4,rfl,I,b5⟩;obtain⟨z,V⟩:∃ z,z=[m]++nb++a3:=⟨_,rfl⟩;rw [<- V]at I O;obtain⟨p4,z4,rfl⟩:=I.shape';have c6:z.length<=21:=(by rw [V];simp;omega);clear V a6;have a7:=b4.trans b5;have X:=ad (uQ _ _ z d w4 I.see (M.fr a7) (by omega));obtain⟨J,Y⟩:∃ J,J=z++d:=⟨_,rfl⟩;rw [<- Y]at X O;have c7:J.length<=32800:=(by rw [Y,an];omega);clear I M Y;go_wp2_with fail;refine X.out.mono ?_;rintro e w5 ⟨v5,rfl,Z,bA⟩;obtain⟨p5,z5,rfl⟩:=Z.shape';have aa:=hf.trans (a7.trans bA);have HP:=ad (nZ _ J w5 Z.see (by omega) (HT.out _ aa));rw [<- O.out]at HP;clear X Z;go_wp2_with fail;refine HP.out.mono ?_;rintro e w6 ⟨v6,rfl,bB,bR⟩;go_wp2_with fail;go_ret2;exact⟨_,rfl,bB.rebase aa.size,aa.trans bR⟩
structure du (l:List am):Prop where
 len:l.length<=60
 wt:aQ bD l<=4000
theorem wn{α:Type}(f:α->Nat):∀ (l:List α) (x:α),x∈l->f x<=aQ f l
 | [],x,h=>by cases h
 | y::l,x,h=>by
  simp only [aQ,fL,lV]
  rcases fy.1 h with rfl | h
  · omega
  · have:=wn f l x h
    unfold aQ at this
    omega
theorem du.each{l:List am}(h:du l):∀ r∈l,r.source.length+r.text.length<=3984:=fun r d=>by
 have e:=wn bD l r d
 have m:=h.wt
 unfold bD at e m
 omega
theorem du.ok{l:List am}(h:du l):cV l=true:=by
 unfold cV;rw [bs (by have:=h.len;omega),bs (by have:=h.wt;omega)];simp only [Bool.and_true,Bool.true_and];rw [rZ];intro r d;have:=h.each r d;unfold dq;rw [bi (by omega),bi (by omega)];rfl
theorem sn{α:Type}(f g:α->Nat)(l:List α)(c:Nat)(h:∀ x∈l,f x=c+g x):aQ f l=l.length*c+aQ g l:=by
 induction l with
 | nil=>simp [aQ]
 | cons x l d=>have e:=d (fun y m=>h y (by simp [m]));have o:=h x (by simp);simp only [aQ,fL,lV,bg]at *;rw [e,o,cr];omega
theorem EV(r:am)(h:r.source.length+r.text.length<=3984):(ff false r).length<=r.source.length+r.text.length+20:=by
 have d:=aG r.source.length (by omega);have e:=aG r.text.length (by omega);unfold ff cZ;simp only [Bool.false_eq_true,if_false,gI,an];omega
theorem wl{α:Type}(f:α->Nat){g l:List α}(h:g.Sublist l):aQ f g<=aQ f l:=by
 induction h with
 | slnil=>exact ag _
 | cons a _ d=>simp only [aQ,fL,lV]at *;omega
 | cons_cons a _ d=>simp only [aQ,fL,lV]at *;omega
theorem du.bytes{l:List am}(h:du l)(g:List am)(d:g.Sublist l):(bT false g).length<=6000:=by
 have m:(bT false g).length<=(bT false l).length:=by unfold bT;rw [fU,fU];exact wl _ d
 have o:(bT false l).length<=aQ (fun r=>bD r+4) l:=by unfold bT;rw [fU];refine sp _ _ l fun r e=>?_;have:=EV r (h.each r e);unfold bD;omega
 have q:=sn (fun r=>bD r+4) bD l 4 (fun r _=>by omega);have:=h.wt;have:=h.len;omega
def bP(p:Bool)(l:List am)(d:List Nat)(k:Nat):List UInt8:=iK p (bT false ((l.take (d.take (k+1)).sum).drop (d.take k).sum))
def aZ(d:Nat->List UInt8)(k:Nat):List (List UInt8):=(List.range k).map d
theorem nJ(d:Nat->List UInt8)(k:Nat):aZ d (k+1)=aZ d k++[d k]:=by unfold aZ;rw [jt,fN];rfl
theorem mz{α:Type}(S:Nat)(f:α->Nat)(l:List α):(aT S f l).length<=l.length:=by
 have z:=m7 S f l;have d:∀ x∈aT S f l,1<=x:=by
  cases l with
  | nil=>intro x e;cases e
  | cons r l=>exact G4 S f l 1 (f r) (ag _)
 have key:∀ m:List Nat,(∀ x∈m,1<=x)->m.length<=m.sum:=by
  intro m
  induction m with
  | nil=>intro _;simp
  | cons x m o=>intro h;have A:=o (fun y q=>h y (by simp [q]));have D:=h x (by simp);simp only [bg,lV];omega
 have:=key _ d;omega
theorem du.frm{l:List am}(h:du l)(p:Bool)(d:List Nat)(k:Nat):(bT false ((l.take (d.take (k+1)).sum).drop (d.take k).sum)).length<=6000/\(bP p l d k).length<=6025:=by
 have e:=h.bytes ((l.take (d.take (k+1)).sum).drop (d.take k).sum) ((List.drop_sublist _ _).trans (List.take_sublist _ _));refine⟨e,?_⟩;have:=Aq p _ (og e (by omega));unfold bP;omega
theorem oZ(d:Nat->List UInt8)(b:Nat)(h:∀ k,(d k).length<=b)(k:Nat):(aZ d k).flatten.length<=k*b:=by
 unfold aZ;rw [fU];refine aq (kk _ b _ fun i _=>h i) ?_;rw [kK];exact ag _
theorem mf{w w':World}{base g:Nat}{T:TypeId}{d:Value}{l:List UInt8}(h:cP w base g T d l)(e:Fr w w'):cP w' base g T d l:=⟨e.heap h.1,h.2.1.fr e,h.2.2⟩
def jJ(w:World)(b:Nat)(e:Value)(a:List UInt8)(m:Value):Prop:=
 (cH a=false/\e=.agg #[.slice none 0 0,.slice none 0 0])\/(cH a=true/\∃ d h,e=.agg #[d,h]/\Ow w b eB d a/\Ow w b eU h (cg a)/\(d.ownBlock=none\/d.ownBlock≠m.ownBlock))
theorem jJ.fr{w w':World}{b:Nat}{d e:Value}{a:List UInt8}(h:jJ w b d a e)(m:Fr w w'):jJ w' b d a e:=by
 rcases h with h | ⟨h,o,q,y,z,A,D⟩;· exact .inl h
 · exact .inr ⟨h,o,q,y,z.fr m,A.fr m,D⟩
theorem jJ.step{w w':World}{b base g:Nat}{T:TypeId}{G q I:Value}{a l:List UInt8}(h:jJ w b G a q)(y:cP w base g T q l)(J:T≠5/\T≠231/\T≠3)(z:aA g q I w w'):jJ w' b G a I:=by
 rcases h with h | ⟨h,K,M,O,A,D,L⟩;· exact .inl h
 · have Q:=y.2.1;refine .inr ⟨h,K,M,O,A.chg z.1 ?_,D.chg z.1 ?_,?_⟩
   · rintro k m (e | e);· exact A.ne_cells y.1 J.1 (by rw [m,e])
     · rcases L with d | d;· rw [d]at m;cases m
       · exact d (m.trans e.symm)
   · rintro k m (e | e);· exact D.ne_cells y.1 J.2.1 (by rw [m,e])
     · rcases iB D Q (by decide)with d | d;· rw [d]at m;cases m
       · exact d (m.trans e.symm)
   · cases o:K.ownBlock with
     | none=>exact .inl rfl
     | some k=>
      refine .inr fun e=>?_;rcases z.2 k e.symm with d | d
      · rcases L with F | F;· rw [F]at o;cases o
        · exact F (o.trans d.symm)
      · have:=(A.lt k o).2;omega
theorem tw(a:List UInt8)(o s:Nat)(q:Value)(base g:Nat)(T:TypeId)(d:Value)(l:List UInt8)(w:World)(h:jJ w o q a d)(y:cP w base g T d l)
  (hn:a.length<=300) (h15:∀ c∈a,c.toNat<=15) (hs:s<=1000000) (hl:l.length<=900000000) (hsz:base<=w.heap.size) :
  Calls Tryz.prog 178 #[q,.pointer (some ⟨g,0,none⟩),N s] w fun e w'=>(∃ x:Int,e=.returned (.int .i64 x))/\∃ m,cP w' base g T m (l++cU a s)/\aA g d m w w':=by
 rcases h with⟨h,rfl⟩ | ⟨h,A,D,rfl,F,G,_⟩;· refine(JZ _ s w hs).mono ?_;rintro e w' ⟨rfl,z⟩;refine⟨⟨13,rfl⟩,d,?_,(aA.refl g d w).frR z⟩;have e:cU a s=[]:=(by unfold cU;rw [h];rfl);rw [e,dm];exact mf y z
 · refine(Ka a o o A D s base g T d l w F G y hn h15 h hs hl hsz).mono ?_;rintro e w' ⟨rfl,m,I,J⟩;refine⟨⟨_,rfl⟩,m,?_,J⟩;unfold cU;rw [h];exact I
theorem xW(v:Value)(a:List UInt8)(o:Nat)(base g:Nat)(T:TypeId)(d:Value)(l:List UInt8)(w:World)(q:cP w base g T d l)(z:T≠5)
  (hs:Ow w o eB v a) (hap:v.ownBlock=none\/v.ownBlock≠d.ownBlock) (hn:a.length<=300) (h15:∀ c∈a,c.toNat<=15) (hl:l.length<=900000000) (hsz:base<=w.heap.size) :
  Calls Tryz.prog 175 #[.pointer (some ⟨g,0,none⟩),v] w fun e w'=>(∃ x:Int,e=.returned (.int .i64 x))/\∃ h,cP w' base g T h (l++fO a)/\aA g d h w w':=by
 cases m:cH a with
 | true=>refine(JU v a o base g T z d l w q hs hap hn h15 m hl hsz).mono ?_;rintro e w' ⟨rfl,h,A,D⟩;refine⟨⟨_,rfl⟩,h,?_,D⟩;unfold fO;rw [m];exact A
 | false=>refine(JT v a g w hs.see hn h15 m).mono ?_;rintro e w' ⟨rfl,y⟩;refine⟨⟨_,rfl⟩,d,?_,(aA.refl g d w).frR y⟩;have e:fO a=[]:=(by unfold fO;rw [m];rfl);rw [e,dm];exact mf q y
theorem tt(v:Value)(a:List UInt8)(o:Value)(w:World)(q:af w eB v a)(y:a.length<=300)(z:0<a.length)(A:∀ c∈a,c.toNat<=15)(I:∀ k,o.ownBlock=some k->k<w.heap.size) :
  Calls Tryz.prog 176 #[v] w fun e w'=>∃ (x:Int) (d D:Value),e=.returned (.tuple #[.agg #[d,D],.int .i64 x])/\jJ w' w.heap.size (.agg #[d,D]) a o/\Fr w w':=by
 cases h:cH a with
 | true=>
  refine(Kc v a w q y z A h).mono ?_;rintro e w' ⟨d,F,rfl,G,J,m⟩;refine⟨0,d,F,rfl,.inr ⟨h,d,F,rfl,G,J,?_⟩,m⟩
  cases K:d.ownBlock with
  | none=>exact .inl rfl
  | some k=>exact .inr fun e=>by have L:=(G.lt k K).1;have M:=I k e.symm;omega
 | false=>refine(Kb v a w q y z A h).mono ?_;rintro e w' ⟨rfl,m⟩;exact⟨7,_,_,rfl,.inl ⟨h,rfl⟩,m⟩
theorem jJ.shape{w:World}{b:Nat}{d m z:Value}{a:List UInt8}(h:jJ w b (.agg #[d,m]) a z):∃ p n c o A q,d=.slice p n c/\m=.slice o A q:=by
 rcases h with⟨_,h⟩ | ⟨_,x,y,h,D,F,_⟩;· simp only [Value.agg.injEq,Array.mk.injEq,lZ,iR]at h;exact⟨_,_,_,_,_,_,h.1,h.2⟩
 · simp only [Value.agg.injEq,Array.mk.injEq,lZ,iR]at h;obtain⟨p,c,e⟩:=D.shape';obtain⟨o,q,G⟩:=F.shape';exact⟨_,_,_,_,_,_,h.1.trans e,h.2.trans G⟩
theorem Jw (v : Value) (l : List bF) (w : World) (hs : af w gl v l) (hn : l.length ≤ 32768) (hm : ∀ t ∈ l, ft t = true) :
    Calls Tryz.prog 119 #[v] w fun e w'=>∃ u,e=.returned (.tuple #[u,.int .i64 0])/\Ow w' w.heap.size eB u (bM (lk (aY (cJ l)) (aY (dg l)) l))/\Fr w w':=by
  have HS:=ad (fun W (h:Fr w W)=>hs.fr h);have f1:=ad (Kw v l w hs (by omega) hm);obtain⟨a0,mp,rfl,ms,hR,mu⟩:=hs.shape;unfold maxLen at hR;have o:246≠5/\246≠231/\246≠3:=(by decide);have f2:∀ x∈cJ l,x<4294967296:=fun x hx=>(by obtain⟨k,_,rfl⟩:=gt.1 hx;have:=nh l k;split <;> omega);have f3:∀ x∈dg l,x<4294967296:=fun x hx=>(by obtain⟨k,_,rfl⟩:=gt.1 hx;have:=rt l k;omega);have f4:(cJ l).length=265:=(by simp [cJ]);have f5:(dg l).length=12:=(by simp [dg]);have cG:(aY (cJ l)).length=265:=(by rw [oR,f4]);have da:(aY (dg l)).length=12:=(by rw [oR,f5]);have dc:=oS (cJ l);have dd:=oS (dg l);have hS:=ad (fun u W (hu:af W eV u (cJ l))=>AY u (cJ l) W hu (by omega) f2);have hV:=ad (fun u W (hu:af W eV u (dg l))=>AY u (dg l) W hu (by omega) f3);have a6:=ad cG;have V:=ad da;have X:=ad dc;have a7:=ad dd;have dk:=qi (aY (cJ l));have dl:=qi (aY (dg l));have hX:=ad (fun k (d:k<l.length)=>hm _ (aH d));have hY:=ad (fun k=>wK (aY (cJ l)) (aY (dg l)) dc dd (l.take k) (fun t h=>hm t (eD h)));have hZ:Hid (lk (aY (cJ l)) (aY (dg l)) l=((fO (aY (cJ l))++fO (aY (dg l)))++dW (aY (cJ l)) (aY (dg l)) l)++cU (aY (cJ l)) 256):=rfl;rw [cG]at dk;rw [da]at dl;generalize aY (cJ l)=A at *;generalize aY (dg l)=B at *;clear hs cG da dc dd f4 f5 f2 f3 hm;have f6:=ad dk;have ia:=ad dl;clear dk dl;have mv:¬(32768:Int)<l.length:=(by omega);go_enter Tryz.func119, Tryz.ntmps119;go_wp2_with fail;refine f1.out.mono ?_;rintro e m ⟨u1,u2,rfl,f7,f9,cc⟩;have hg:(m.alloc (.cells #[.slice none 0 0] 246)).heap[m.heap.size]? = some (.cells #[.slice none 0 0] 246 (0,0)):=au _ _ _ rfl;have dr:Fr m (m.alloc (.cells #[.slice none 0 0] 246)):=(Fr.refl m).alloc _
  have gb:cP (m.alloc (.cells #[.slice none 0 0] 246)) (m.heap.size+1) m.heap.size 246 (.slice none 0 0) []:=
    ⟨hg,Ow.nil,by omega,fun c hc=>by cases hc⟩
  have gc:=ad (hS.out u1 _ (f7.fr dr).see);have ge:=ad (fun W (h:Fr m W)=>(f9.fr h).see);have mx:m.heap.size+1<=(m.alloc (.cells #[.slice none 0 0] 246)).heap.size:=(by rw [dp];omega);clear f7 f9 hg f1;go_upto_region 7 with fail;generalize m.alloc (.cells #[.slice none 0 0] 246)=W2 at *;have m1:w.heap.size<=m.heap.size:=cc.size;generalize ix:m.heap.size=g at *;go_wp2_with fail;refine gc.out.mono ?_;rintro e W3 ⟨va,rfl,ds,q⟩;obtain⟨aa,ac,rfl⟩:=ds.shape';have gs:=ad (hV.out u2 W3 (ge.out _ (dr.trans q)));clear gc;go_wp2_with fail;refine gs.out.mono ?_;rintro e W4 ⟨vb,rfl,bb,d2⟩;obtain⟨ba,bc,rfl⟩:=bb.shape';have bd:=mf (mf gb q) d2;have bf:=ds.fr d2;have i3:=(dr.trans q).trans d2;clear gs ge gb ds;have d5:g+1<=W4.heap.size:=(aR.1 bd.1).1
  have g0 := ad (xW _ A _ _ _ _ _ _ W4 bd o.1 bf (by cases d : (Value.slice aa A.length ac).ownBlock with
    | none => exact .inl rfl
    | some k => exact .inr (fun e => by cases e)) (by have := a6.out; omega) X.out (by simp) d5)
  go_wp2_with fail;refine g0.out.mono ?_;rintro e W5 ⟨⟨r5,rfl⟩,g1,cf,O⟩;have g2:∀ k,(Value.slice aa A.length ac).ownBlock=some k->¬(k=g\/(Value.slice none 0 0).ownBlock=some k):=fun k d e=>by
    rcases e with e | e;· exact bf.ne_cells bd.1 o.1 (by rw [d,e])
    · cases e
  have g3:∀ k,(Value.slice ba B.length bc).ownBlock=some k->¬(k=g\/(Value.slice none 0 0).ownBlock=some k):=fun k d e=>by
    rcases e with e | e;· exact bb.ne_cells bd.1 o.1 (by rw [d,e])
    · cases e
  have d6:=bf.chg O.1 g2;have ch:=bb.chg O.1 g3;have cj:∀ k,g1.ownBlock=some k->(Value.slice aa A.length ac).ownBlock≠some k:=fun k d e=>by
    rcases O.2 k d with h | h;· cases h
    · have:=(bf.lt k e).2;omega
  have bk:∀ k,g1.ownBlock=some k->(Value.slice ba B.length bc).ownBlock≠some k:=fun k d e=>by
    rcases O.2 k d with h | h;· cases h
    · have:=(bb.lt k e).2;omega
  have g4:=aq d5 O.1.size
  have g5 := ad (xW _ B _ _ _ _ _ _ W5 cf o.1 ch (by cases d : (Value.slice ba B.length bc).ownBlock with
    | none => exact .inl rfl
    | some k => exact .inr (fun e => bk k e.symm d)) (by have := V.out; omega) a7.out (by simp; have := f6.out; omega) g4)
  have cj:=ad cj;have bk:=ad bk;clear g0 g2 g3;go_wp2_with fail;refine g5.out.mono ?_;rintro e W6 ⟨⟨r6,rfl⟩,cm,Q,cn⟩;have g7 := d6.chg cn.1 (fun k d e => by
    rcases e with e | e;· exact d6.ne_cells cf.1 o.1 (by rw [d, e])
    · exact cj.out k e d)
  have d7 := ch.chg cn.1 (fun k d e => by
    rcases e with e | e;· exact ch.ne_cells cf.1 o.1 (by rw [d, e])
    · exact bk.out k e d)
  have g8:=(aA.fr i3 (O.trans cn));have g9:=ad (tt _ A cm W6 g7.see (by have:=a6.out;omega) (by have:=a6.out;omega) X.out (fun k d=>(Q.2.1.lt k d).2));have i5:=ad (fun W (F:Fr W6 W)=>(d7.fr F).see);have i6:=ad (fun k d=>(Q.2.1.lt k d).2);have gO:=ad (fun W (F:Fr W6 W)=>tt _ B cm W (d7.fr F).see (by have:=V.out;omega) (by have:=V.out;omega) a7.out (fun k d=>jN (Q.2.1.lt k d).2 F.size));clear g5 bf bb d6 ch g7 d7 bd cf cj bk O cn d5 g4;go_wp2_with fail;refine g9.out.mono ?_;rintro e I ⟨x7,lv,kv,rfl,d8,Y⟩;obtain⟨z,co⟩:∃ z,z=[]++fO A++fO B:=⟨_,rfl⟩;rw [<- co]at Q;have jv:=ad co;have nb:z.length<=3000:=(by rw [co];simp;have:=f6.out;have:=ia.out;omega);clear co;have j0:=ad (gO.out I Y);clear g9 gO;obtain⟨q1,n1,c1,q2,n2,c2,rfl,rfl⟩:=d8.shape;have cp:=(Fr.refl I).alloc (.cells #[.slice q1 n1 c1,.slice q2 n2 c2] 251);have ha:(I.alloc (.cells #[.slice q1 n1 c1,.slice q2 n2 c2] 251)).heap[I.heap.size]? = some (.cells #[.slice q1 n1 c1,.slice q2 n2 c2] 251 (0,0)):=au _ _ _ rfl;have hb:=ad (fun W (F:Fr I W)=>tt _ B cm W ((af.fr (i5.out I Y)) F) (by have:=V.out;omega) (by have:=V.out;omega) a7.out (fun k d=>jN (i6.out k d) (Y.trans F).size));have hd:=ad (hb.out _ cp);clear j0 hb;go_upto_region 12 with fail;go_wp2_with fail;refine hd.out.mono ?_;rintro e Z ⟨x8,lv,kv,rfl,d9,cs⟩;obtain⟨q3,n3,c3,q4,n4,c4,rfl,rfl⟩:=d9.shape;have bz:=(Fr.refl Z).alloc (.cells #[.slice q3 n3 c3,.slice q4 n4 c4] 251);have he:(Z.alloc (.cells #[.slice q3 n3 c3,.slice q4 n4 c4] 251)).heap[Z.heap.size]? = some (.cells #[.slice q3 n3 c3,.slice q4 n4 c4] 251 (0,0)):=au _ _ _ rfl;have ct:=(Y.trans cp).trans cs;have hh:=bz.heap (cs.heap ha);have hi:=mf (mf Q ct) bz;have hj:=((d8.fr cp).fr cs).fr bz;have hl:=d9.fr bz;have ho:=(g8.frR ct).frR bz;have j1:=(aR.1 Q.1).1;have cv:I.heap.size≠g:=(by have:=Y.size;omega);have cx:Z.heap.size≠g:=(by have:=ct.size;omega);clear hd Q d8 d9 g8 ha cp cs Y ct j1;go_upto_region 13 with fail;generalize Z.alloc (.cells #[.slice q3 n3 c3,.slice q4 n4 c4] 251)=W9 at *;generalize I.heap.size=gA at *;generalize Z.heap.size=gB at *
  have dT:Hid (∀ W D,aA g (.slice none 0 0) D m W->Fr m W):=fun W D h=>
    ak.below (Fr.refl m) h.1 (ag _) (fun i e => by
      rcases e with e | e
      · exact gZ (ix.trans e.symm)
      · cases e)
  go_wp2_with fail;go_loopw [16] (fun iv wr=>∃ (k:Nat) (D:Value),k<=l.length/\iv=N k/\cP wr (g+1) g 246 D (z++dW A B (l.take k))/\jJ wr W6.heap.size (.agg #[.slice q1 n1 c1,.slice q2 n2 c2]) A D/\(∃ b8,jJ wr b8 (.agg #[.slice q3 n3 c3,.slice q4 n4 c4]) B D)/\wr.heap[gA]? = some (.cells #[.slice q1 n1 c1,.slice q2 n2 c2] 251 (0,0))/\wr.heap[gB]? = some (.cells #[.slice q3 n3 c3,.slice q4 n4 c4] 251 (0,0))/\aA g (.slice none 0 0) D m wr) (fun iv _=>l.length - (intOf iv).toNat);case atStart=>exact⟨0,cm,ap _,rfl,by rw [gH];simpa [dW] using hi,hj,⟨_,hl⟩,hh,he,ho⟩
  case round=>
    clear hi hj hl hh he ho;obtain⟨k,D,d,rfl,R,hC,⟨b8,hD⟩,b0,ek,b1⟩:=hrel;have hq:=dT.out _ _ b1;have er:g+1<=wr.heap.size:=(aR.1 R.1).1
    have es : (z ++ dW A B (l.take k)).length ≤ 2000000 := by rw [an]; have h1 := hY.out k; have h2 : (l.take k).length ≤ l.length := by rw [aV]; omega
                                                              omega
    have ev:=ae b0 0 rfl;have e0:=ae b0 1 rfl;by_cases cz:k<l.length
    · obtain⟨b,nl,nn,hv,c0,kc,ke⟩:=nf (HS.out wr (cc.trans hq)) k cz;cases hv;have HX:Hid ((z++dW A B (l.take k))++iU A B l[k]=z++dW A B (l.take (k+1))):=(by show _=_;rw [cL cz,wJ,eE]);have e2:=hX.out k cz;have ki:=ad (fun W F=>nf (HS.out W F) k cz);generalize l[k]=t at *;have hr:Hid (∀ W,Calls Tryz.prog 177 #[kN t] W fun e w'=>e=.returned (.tuple #[.agg #[N (a9 t).sym,N (a9 t).len,N (a9 t).dist,N (a9 t).far],.int .i64 0])/\Fr W w'):=fun W=>AP t W e2;have i1:(0:Int)<=k:=(by omega);have i2:(k:Int)<l.length:=(by omega);have kl:=oJ t e2;have e3:=ad (yp t e2);have e4:=ad (wM A B t);have ht:=ad (wL A B t);obtain⟨nv,nw,n0,n5,hw,e5⟩:=kl;obtain⟨mk,hy⟩:∃ mk,mk=z++dW A B (l.take k):=⟨_,rfl⟩;rw [<- hy]at R HX es;clear hy;go_wp2_with fail;refine(hr.out _).mono ?_;rintro e J ⟨rfl,e6⟩;have hz:Fr J (J.alloc (.cells #[N (a9 t).sym,N (a9 t).len,N (a9 t).dist,N (a9 t).far] 255)):=(Fr.refl J).alloc _;have c5:(J.alloc (.cells #[N (a9 t).sym,N (a9 t).len,N (a9 t).dist,N (a9 t).far] 255)).heap[J.heap.size]? = some (.cells #[N (a9 t).sym,N (a9 t).len,N (a9 t).dist,N (a9 t).far] 255 (0,0)):=au _ _ _ rfl;have e7:J.heap.size≠g:=(by have:=e6.size;omega);have q:=e6.trans hz;have T:=mf R q;have e9:=hC.fr q;have h3:=hD.fr q;have b3:=q.heap b0;have fb:=q.heap ek;have h4:=b1.frR q;have fc:=aq er q.size;generalize kn:(a9 t).sym=y at *;generalize kq:(a9 t).dist=U at *;generalize kr:(a9 t).len=le at *;generalize ks:(a9 t).far=fa at *;clear kn kq kr ks R hC hD b0 ek b1 hq ev e0 c0 kc ke e6 q hz er hr;go_upto_region 17 with fail;generalize J.alloc (.cells #[N y,N le,N U,N fa] 255)=kx at *;generalize J.heap.size=pb at *;have h5:=ad (tw A _ y _ (g+1) g 246 D mk kx e9 T (by have:=a6.out;omega) X.out (by omega) (by omega) fc);have ev:=ae b3 0 rfl;have e0:=ae b3 1 rfl;have p0:=ae c5 0 rfl;go_wp2_with fail;refine h5.out.mono ?_;rintro e h6 ⟨⟨r4,rfl⟩,h7,G,K⟩;have c6:=K.heap b3 cv (T.2.1.ne_cells b3 (by decide));have c7:=K.heap fb cx (T.2.1.ne_cells fb (by decide));have b5:=K.heap c5 e7 (T.2.1.ne_cells c5 (by decide));have fd:=e9.step T o K;have fk:=h3.step T o K;have c8:=h4.trans K;have fl:=aq fc K.1.size;obtain⟨_,_,_,ky,_,d1,_⟩:=ki.out h6 (cc.trans (dT.out _ _ c8));cases ky;clear h5 ev e0 p0 e9 h3 T b3 fb c5 h4 K fc;by_cases h0:t.len=0
      · have k0:¬(0:Int)<t.len:=(by omega);rw [<- e4.out h0,HX.out]at G;clear e4 ht e3 hw e5;go_wp2_with fail;go_roundw;case rel=>exact⟨k+1,h7,by omega,by go_num,G,fd,⟨_,fk⟩,c6,c7,c8⟩
        case measure=>simp [intOf];omega
      · have k0:(0:Int)<t.len:=(by omega);have ob:257<=y:=e5 h0;obtain⟨h8,h9⟩:=e3.out h0;have hA:(mk++cU A y).length<=2000015:=(by rw [an];have:=nr A y X.out;omega);obtain⟨m4,fm⟩:∃ m4,m4=mk++cU A y:=⟨_,rfl⟩;rw [<- fm]at G hA;have k1:=ad fm;have k2:=ad h9;have hB:=ad (pG le (y - 257) (by omega) h8 (g+1) g 246 h7 m4 h6 G (by omega) fl);have k4:(y:Int) - 257=((y - 257:Nat):Int):=(by omega);have k5:IntKind.u64.wrap (le:Int)=le:=aX _ (by omega);have p0:=ae b5 0 rfl;have p1:=ae b5 1 rfl;clear hw e5 fm h8 h9 e4 e3;go_wp2_with fail;refine hB.out.mono ?_;rintro e k6 ⟨rfl,k7,a5,L⟩;have bA:=L.heap c7 cx (G.2.1.ne_cells c7 (by decide));have fn:=L.heap c6 cv (G.2.1.ne_cells c6 (by decide));have cA:=L.heap b5 e7 (G.2.1.ne_cells b5 (by decide));have hE:=fd.step G o L;have fr:=fk.step G o L;have hG:=c8.trans L;have fs:=aq fl L.1.size;have k8:(m4++aW le (y - 257)).length<=2000030:=(by rw [an,jm];omega);have hH:=ad (tw B _ U _ (g+1) g 246 k7 _ k6 fr a5 (by have:=V.out;omega) a7.out (by omega) (by omega) fs);have k9:=ae bA 0 rfl;have la:=ae bA 1 rfl;have p2:=ae cA 2 rfl;clear hB fd fk c6 c7 b5 p0 p1 L c8 k4 k5 fl hA;go_wp2_with fail;refine hH.out.mono ?_;rintro e lc ⟨⟨oc,rfl⟩,ln,bB,M⟩;have hI:=M.heap bA cx (a5.2.1.ne_cells bA (by decide));have hJ:=M.heap fn cv (a5.2.1.ne_cells fn (by decide));have hK:=M.heap cA e7 (a5.2.1.ne_cells cA (by decide));have lo:=hE.step a5 o M;have lr:=fr.step a5 o M;have ls:=hG.trans M;have lt:=aq fs M.1.size;have lz:((m4++aW le (y - 257))++cU B U).length<=2000045:=(by rw [an];have:=nr B U a7.out;omega);have l0:=ad (pG fa U (by omega) k2.out (g+1) g 246 ln _ lc bB (by omega) lt);have od:IntKind.u64.wrap (fa:Int)=fa:=aX _ (by omega);have oe:=ae hK 2 rfl;have ok:=ae hK 3 rfl;clear hH hE fr fn bA cA p2 k9 la M hG fs k8 lz;go_wp2_with fail;refine l0.out.mono ?_;rintro e ol ⟨rfl,l1,hL,bR⟩;have l2:=bR.heap hI cx (bB.2.1.ne_cells hI (by decide));have l3:=bR.heap hJ cv (bB.2.1.ne_cells hJ (by decide));have l4:=lo.step bB o bR;have l5:=lr.step bB o bR;have HE:Hid (((m4++aW le (y - 257))++cU B U)++aW fa U=z++dW A B (l.take (k+1))):=(by show _=_;rw [<- HX.out,ht.out h0,k1.out];simp);rw [HE.out]at hL;go_wp2_with fail;go_roundw;case rel=>exact⟨k+1,l1,by omega,by go_num,hL,l4,⟨_,l5⟩,l3,l2,ls.trans bR⟩
        case measure=>simp [intOf];omega
    · obtain rfl:k=l.length:=(by omega);have om:¬(l.length:Int)<l.length:=(by omega);rw [cu]at R es;have hM:=ad (tw A _ 256 _ (g+1) g 246 D _ wr hC R (by have:=a6.out;omega) X.out (by omega) (by omega) er);clear hC hD R b0 ek;go_wp2_with fail;refine hM.out.mono ?_;rintro e l6 ⟨⟨r8,rfl⟩,l9,hN,hO⟩;have hP:=cc.trans (dT.out _ _ (b1.trans hO));have HE:Hid ((z++dW A B l)++cU A 256=lk A B l):=(by show _=_;rw [hZ.out,jv.out];simp);have hQ:((z++dW A B l)++cU A 256).length<=7999992:=(by rw [an];have:=nr A 256 X.out;omega);have ma:=ad (AM (g+1) g 246 l9 _ l6 hN hQ);clear hM hN hO b1 hQ es;go_wp2_with fail;refine ma.out.mono ?_;rintro e or ⟨u,rfl,hU,mc⟩;go_wp2_with fail;go_ret2;exact⟨_,rfl,by rw [<- HE.out];exact hU.rebase hP.size,hP.trans mc⟩
theorem Bd (p : Bool) (v : Value) (l : List UInt8) (w : World) (D : af w eB v l) (hn : l.length ≤ 32768) :
    Calls Tryz.prog 75 #[v,.bool p] w fun e w'=>∃ u,e=.returned (.tuple #[u,.int .i64 0])/\Ow w' w.heap.size eB u (iK p l)/\Fr w w':=by
  obtain⟨a0,cv,rfl,cx,cy,b1⟩:=D.shape;have HS:=ad (fun W (h:Fr w W)=>D.fr h);have HF:=ad (Ku _ l w D (by omega));have F:=ad (fun u W (h:af W gl u (dN l))=>Jw u (dN l) W h (by have:=zt l 0;unfold dN;omega) (zr l 0));have HQ:Hid (iz l=bM (lk (aY (cJ (dN l))) (aY (dg (dN l))) (dN l))):=rfl;rw [<- HQ.out]at F;clear HQ;have cz:¬(32768:Int)<l.length:=(by omega);have a7:=ad (fun n (h:n<18446744073709551616) W=>jI n h W);have c0:=aG l.length (by omega);have c3:IntKind.u64.wrap (l.length:Int)=(l.length:Int):=aX _ (by omega);have b2:Hid (l.length<18446744073709551616):=(by show _<_;omega);clear D b1;have o:Hid (iK p l=if p=false/\(iz l).length<l.length then g6 1 l.length (iz l)else g6 0 l.length l):=rfl;generalize iK p l=T at *;generalize iz l=q at *;generalize dN l=tk at *;go_enter Tryz.func75, Tryz.ntmps75;go_upto_if 16 with fail;go_cut [6,7]from 8 to 28 (fun wv bv wx=>∃ (m:UInt8) (d:List UInt8),wv=Fk.u8 m/\af wx eB bv d/\d.length<=32768/\Hid (T=g6 m l.length d)/\Fr w wx)
  case first=>
    cases p with
    | true=>have z:Hid (T=g6 0 l.length l):=(by show _=_;rw [o.out,ah (by simp)]);go_wp2_with fail;go_meet;exact⟨0,l,by first | rfl | trivial,HS.out _ (Fr.refl w),hn,z,Fr.refl w⟩
    | false=>
      have Q:Hid (q.length<l.length->T=g6 1 l.length q):=fun h=>(by rw [o.out,ai ⟨rfl,h⟩]);have R:Hid (¬q.length<l.length->T=g6 0 l.length l):=fun h=>(by rw [o.out,ah (fun h2=>h h2.2)]);go_wp2_with fail;refine HF.out.mono ?_;rintro e w1 ⟨v1,rfl,b8,bA⟩;have bB:=ad (F.out _ _ b8.see);clear F;go_wp2_with fail;refine bB.out.mono ?_;rintro e w2 ⟨v2,rfl,bd,y⟩;obtain⟨va,vc,rfl⟩:=bd.shape';have U:=bA.trans y;by_cases bf:q.length<l.length;· have cb:(q.length:Int)<l.length:=(by omega);have z:=ad (Q.out bf);clear Q R o;go_wp2_with fail;go_meet;exact⟨1,q,by first | rfl | trivial,bd.see,by omega,z,U⟩
      · have cb:¬(q.length:Int)<l.length:=(by omega);have z:=ad (R.out bf);clear Q R o;go_wp2_with fail;go_meet;exact⟨0,l,by first | rfl | trivial,HS.out _ U,hn,z,U⟩
  case rest=>
    obtain⟨m,d,rfl,V,c9,cc,hf⟩:=hcut;obtain⟨ba,bc,rfl,_⟩:=V.shape;clear HF F o;have cG:=aG d.length (by omega);have da:IntKind.u64.wrap (d.length:Int)=(d.length:Int):=aX _ (by omega);have ch:=ad (a7.out l.length b2.out);have cj:=ad (a7.out d.length (by omega));have bk:=iC eB wc #[Fk.u8 m] [m] 1 rfl (by simp [maxLen]) (ag wc.heap.size);have X:Fr wc (wc.alloc (.cells #[Fk.u8 m] 5)):=(Fr.refl wc).alloc _;have G:Hid (T=ay (((m::ao l.length)++ao d.length)++d)):=cc;generalize ao l.length=nb at *;generalize ao d.length=cm at *;go_wp2_with fail;refine(ch.out _).mono ?_;rintro e w2 ⟨v2,rfl,bm,y⟩;have Y:=bk.fr y;go_wp2_with (at_builtin;refine aN eB rfl (.tmp 31) (.tmp 35) 29 rfl Tryz.underlying29 wc.heap.size rfl Y _ _ rfl bm.see ?c1 (X.trans y).size ?_);case c1=>first | omega | (simp;omega)
    intro v3 w3 Z;have cn:=Z.below Y (X.trans y) (ag _) (X.trans y).size;have I:=Z.own;obtain⟨J,aa⟩:∃ J,J=m::nb:=⟨_,rfl⟩;rw [<- aa]at I G;have dd:J.length<=11:=(by rw [aa];simp;omega);obtain⟨p3,z3,rfl⟩:=I.shape';clear aa bk Y bm Z;go_wp2_with fail;refine(cj.out _).mono ?_;rintro e w4 ⟨v4,rfl,bn,bt⟩;have ab:=I.fr bt;have ac:=Fr.trans cn bt;go_wp2_with (at_builtin;refine aN eB rfl (.tmp 37) (.tmp 41) 29 rfl Tryz.underlying29 wc.heap.size rfl ab _ _ rfl bn.see ?c1 ac.size ?_);case c1=>first | omega | (simp;omega)
    intro v5 w5 aj;have K:=aj.below ab ac (ag _) ac.size;have A:=aj.own;obtain⟨L,av⟩:∃ L,L=J++cm:=⟨_,rfl⟩;rw [<- av]at A G;have dr:L.length<=21:=(by rw [av];simp;omega);obtain⟨p5,z5,rfl⟩:=A.shape';clear av ab I bn aj;have bu:=V.fr K;go_wp2_with (at_builtin;refine aN eB rfl (.tmp 43) (.tmp 44) 29 rfl Tryz.underlying29 wc.heap.size rfl A _ _ rfl bu ?c1 (Fr.size K) ?_);case c1=>first | omega | (simp;omega)
    intro v6 w6 a1;have co:=a1.below A K (ag _) (Fr.size K);have M:=a1.own;obtain⟨O,a2⟩:∃ O,O=L++d:=⟨_,rfl⟩;rw [<- a2]at M G;have d1:O.length<=32800:=(by rw [a2,an];omega);obtain⟨p6,z6,rfl⟩:=M.shape';have bz:Fr w w6:=hf.trans co;have HP:=ad (lQ _ O w6 M.see (by omega));rw [<- G.out]at HP;clear a2 a1 A M V bu;go_wp2_with fail;refine HP.out.mono ?_;rintro e w7 ⟨v7,rfl,cp,cs⟩;go_wp2_with fail;go_ret2;exact⟨_,rfl,cp.rebase bz.size,bz.trans cs⟩
end Go.Proofs.YtdamnfpigajmoaaGreatDoor
