/- Parts of the proof of ArchEnds: Z3 Z4 Z5 Z6. -/
import Derived.Test.YtfpijnhhdfoohaaGreatDoorM15
import Derived.Test.YtfpijnhhdfoohaaGreatDoorM24
import Derived.Test.YtfpijnhhdfoohaaGreatDoorM11
import Derived.WideKeyArr
set_option linter.unusedVariables false
set_option linter.unusedSectionVars false
set_option linter.unusedSimpArgs false
set_option maxHeartbeats 8000000
set_option maxRecDepth 100000
namespace Go.Proofs.YtfpijnhhdfoohaaGreatDoor
open Go.RowKit Go.Fk
theorem tE:Go.WideMaps.ArrKey Tryz.prog 291 5 3:=⟨Tryz.underlying291,by kernel_rfl,by kernel_rfl,by kernel_rfl⟩
theorem tD:∃ m,(Tryz.prog).types.size=m+1:=⟨(Tryz.prog).types.size - 1,by kernel_rfl⟩
theorem zw(w:World):(zeroValue 3).run Tryz.prog w=.ok (.int .i64 0) w:=by kernel_rfl
theorem J0{P:Program}{o:Func}{p:Tmp}{e:TypeId}(h:o.results=#[.cell p e])(tmps:Array Value)(w:World)(g:Nat)(t:TypeId)(m:Array Value)(q:Nat × Nat)(d:TypeDesc)
  (hp:tmps.getD p undef=.pointer (some ⟨g,0,none⟩)) (hg:w.heap[g]?=some (.cells m t q))
  (hu:P.underlying e=some d) (hd:(match d with | .struct _ | .array _ _=>true | _=>false)=true) (hi:(P.info? e).map (·.size)=some m.size) :
  (results o tmps).run P w=.ok (.agg m) w:=by
 have z:tmps[p]?.getD undef=.pointer (some ⟨g,0,none⟩):=by simpa using hp
 simp [results,h,z,asAddr,rq w g t e m q d hg hu hd hi]
theorem Ac(l:List UInt8)(a:Nat)(h:a+3<=l.length):eG l a=[l[a]'(by omega),l[a+1]'(by omega),l[a+2]'(by omega)]:=by
 unfold eG;rw [ip (by omega),iY,ip (by omega),iY,ip (by omega),iY,ld]
theorem CA (v : Value) (l : List UInt8) (a : Nat) (w : World) (m : ai w eB v l) (R : l.length ≤ 1000000) (U : a + 3 ≤ l.length) :
    Calls Tryz.prog 182 #[v,N a] w fun e F=>e=.returned (v3 (l[a]'(by omega)) (l[a+1]'(by omega)) (l[a+2]'(by omega)))/\Fr w F:=by
  obtain⟨b,V,X,G,q⟩:=nO m a (by omega);have Y:=m.shape;subst G;obtain⟨Z,aa,ab,I,D⟩:=nO m (a+1) (by omega);cases I;obtain⟨b2,aj,ak,J,c2⟩:=nO m (a+2) (by omega);cases J;have o:Fr w (w.alloc (.cells #[.int .u8 0,.int .u8 0,.int .u8 0] 291)):=(Fr.refl w).alloc _;have d:(w.alloc (.cells #[.int .u8 0,.int .u8 0,.int .u8 0] 291)).heap[w.heap.size]?=some (.cells #[.int .u8 0,.int .u8 0,.int .u8 0] 291 (0,0)):=a9 _ _ _ rfl;have K:(a:Int)+1=((a+1:Nat):Int):=(by omega);have i1:(a:Int)<l.length:=(by omega);have i2:(a:Int)+1<l.length:=(by omega);have i3:(a:Int)+2<l.length:=(by omega);clear m K;generalize l[a]=x at *;generalize l[a+1]=y at *;generalize l[a+2]=z at *;replace q:=o.cell q;replace D:=o.cell D;replace c2:=o.cell c2;have e0:(w.alloc (.cells #[.int .u8 0,.int .u8 0,.int .u8 0] 291)).cell? ⟨w.heap.size,0,none⟩=some (.int .u8 0):=(by rw [aA d];rfl);have e1:(w.alloc (.cells #[.int .u8 0,.int .u8 0,.int .u8 0] 291)).cell? ⟨w.heap.size,1,none⟩=some (.int .u8 0):=(by rw [aA d];rfl);have e2:(w.alloc (.cells #[.int .u8 0,.int .u8 0,.int .u8 0] 291)).cell? ⟨w.heap.size,2,none⟩=some (.int .u8 0):=(by rw [aA d];rfl);have f0:=al d 0;have f1:=al d 1;have f2:=al d 2;go_enter Tryz.func182, Tryz.ntmps182;go_upto_region 1 with fail;generalize hW:w.alloc (.cells #[.int .u8 0,.int .u8 0,.int .u8 0] 291)=W at *;go_region;all_goals go_wp2_with fail
  have L:(((W.setCell ⟨w.heap.size,0,none⟩ (.int .u8 (x.toNat:Int))).setCell ⟨w.heap.size,1,none⟩ (.int .u8 (y.toNat:Int))).setCell ⟨w.heap.size,2,none⟩ (.int .u8 (z.toNat:Int))).drew.heap[w.heap.size]?=some (.cells #[.int .u8 (x.toNat:Int),.int .u8 (y.toNat:Int),.int .u8 (z.toNat:Int)] 291 (0,0)):=
    a8 (a8 (a8 d 0 _) 1 _) 2 _
  have M:ah (fun k=>k=w.heap.size) W (((W.setCell ⟨w.heap.size,0,none⟩ (.int .u8 (x.toNat:Int))).setCell ⟨w.heap.size,1,none⟩ (.int .u8 (y.toNat:Int))).setCell ⟨w.heap.size,2,none⟩ (.int .u8 (z.toNat:Int))):=
    ((ao W ⟨w.heap.size,0,none⟩ _).trans (ao _ ⟨w.heap.size,1,none⟩ _) (fun _ _ h=>h)).trans (ao _ ⟨w.heap.size,2,none⟩ _) (fun _ _ h=>h)
  have O:Fr w _:=(ah.below o M o.size (fun k Q=>fO Q.symm)).drew;exact aL (v:=v3 x y z) (J0 Tryz.results182 _ _ w.heap.size 291 _ (0,0) _ rfl L Tryz.underlying291 rfl (by kernel_rfl)) rfl ⟨rfl,O⟩
def eZ:au Tryz.prog Int:=⟨3,1,8,0,.int .i64 0,fun n=>[.int .i64 n],by kernel_rfl,by decide,by decide,by simp [Value.cells],fun _=>rfl,by intro x u d;simp at d;subst d;rfl⟩
def o9(l:List UInt8)(p:Nat):Int:=match kL l p with | some q=>(q:Int) | none=>-1
def iO(l:List UInt8)(a:Nat):List Int:=(List.range a).map (o9 l)
theorem o0(l:List UInt8)(a:Nat):(iO l a).length=a:=by simp [iO]
theorem wZ(l:List UInt8)(a:Nat):iO l (a+1)=iO l a++[o9 l a]:=by simp [iO,lf]
theorem JT(l:List UInt8)(a p:Nat)(h:p<a):(iO l a)[p]'(by rw [o0];exact h)=o9 l p:=by simp [iO]
theorem JS(l:List UInt8)(a:Nat)(x:Int)(h:x=o9 l a):(iO l a++[-1]).set a x=iO l (a+1):=by
 rw [wZ,h,List.set_append];simp [o0]
def kj(l:List UInt8)(a:Nat)(x y z:UInt8):Option Nat:=ie l [x,y,z] a
structure gR (w:World) (base g mb:Nat) (l:List UInt8) (a n:Nat) (pv:Value):Prop where
 at0:w.heap[g]?=some (.cells #[.map (some mb),pv] 219 (0,0))
 map:fu w Tryz.prog 291 3 mb n (kj l a)
 prev:Ow w base eZ pv (iO l a)
 up:base<=g
 up2:base<=mb
theorem qE{α:Type}{E:au Tryz.prog α}{w:World}{base mb n:Nat}{k e:TypeId}{f:UInt8->UInt8->UInt8->Option Nat}{v:Value}{m:List α}(h:Ow w base E v m)(z:fu w Tryz.prog k e mb n f):v.ownBlock≠some mb:=by
 intro d;obtain⟨D,⟨F,G,A,_⟩,_⟩:=z;rcases h.2 with⟨o,_⟩ | ⟨g,I,J,o,_,q,_⟩;· rw [o]at d;cases d
 · rw [o]at d;have:g=mb:=(by simpa [Value.ownBlock] using d);rw [this,A]at q;cases q
theorem QA (v : Value) (l : List UInt8) (base g mb a n : Nat) (pv : Value) (w : World) (hs : ai w eB v l) (hn : l.length ≤ 1000000) (ha : a < l.length) (h : gR w base g mb l a n pv) (ef : n ≤ a) (cF : ∀ W, ah (fun k => k = g ∨ k = mb ∨ pv.ownBlock = some k) w W → ai W eB v l) :
    Calls Tryz.prog 142 #[.pointer (some ⟨g,0,none⟩),v,N a] w fun e w'=>e=.returned (.tuple #[])/\∃ cj n',gR w' base g mb l (a+1) n' cj/\n'<=a+1/\ah (fun k=>k=g\/k=mb\/pv.ownBlock=some k) w w'/\(∀ b,cj.ownBlock=some b->pv.ownBlock=some b\/w.heap.size<=b):=by
  obtain⟨a0,er,rfl,ev,cG,e2⟩:=hs.shape;unfold maxLen at cG;obtain⟨K,hM,hP,bm,bs⟩:=h;obtain⟨pa,pc,ab⟩:=hP.shape';rw [o0]at ab;subst ab;have e0:=af K 0 rfl;have e1:=af K 1 rfl;have cT:=hP.ne_cells K (by decide);have da:=qE hP hM;have bv:g≠mb:=(by intro e;obtain⟨D,⟨es,e4,hb,_⟩,_⟩:=hM;rw [<- e,K]at hb;cases hb);have cm:base<=w.heap.size:=(by have:=(aM.1 K).1;omega);clear hs;go_enter Tryz.func142, Tryz.ntmps142;go_wp2_with (at_builtin;refine cW eZ rfl (.tmp 13) (.tmp 14) 60 rfl Tryz.underlying60 base rfl hP [-1] _ _ _ rfl rfl rfl (by rw [o0];simp;omega) cm ?_);intro v' w4 L;have M:=L.chg'.heap K (fun e=>cT e);have a6:=L.own;have a7:=L.fresh;have cn:ah (fun k=>k=g\/k=mb\/(Value.slice pa a pc).ownBlock=some k) w w4:=L.chg'.mono (fun k _ h=>.inr (.inr h));have cp:=hM.chg L.chg' (fun e=>da e);obtain⟨qa,qc,cq⟩:=a6.shape';have bb:(iO l a++[(-1:Int)]).length=a+1:=(by rw [aD,o0];rfl);rw [bb]at cq;subst cq;have c0:=af M 0 rfl;have c1:=af M 1 rfl;have d1:w4.frozen? ⟨g,1,none⟩=false:=al M 1;clear hP hM L e0 e1;go_upto_region 1 with fail;have h5:(w4.setCell ⟨g,1,none⟩ (.slice qa (a+1) qc)).heap[g]?=some (.cells #[.map (some mb),.slice qa (a+1) qc] 219 (0,0)):=a8 M 1 _;have bc:ah (fun k=>k=g) w4 (w4.setCell ⟨g,1,none⟩ (.slice qa (a+1) qc)):=ao w4 ⟨g,1,none⟩ _;have b0:=a6.chg bc (fun k hk e=>(a6.ne_cells M (by decide)) (by rw [hk,e]));have b1:=cp.chg bc (fun e=>bv e.symm);have aj:=cn.trans bc (fun _ _ h=>.inl h);generalize w4.setCell ⟨g,1,none⟩ (.slice qa (a+1) qc)=W5 at *;have cs:=cF W5 aj;have dr:base<=W5.heap.size:=az cm aj.size;clear a6 cp cn bc M c0 c1 d1;by_cases O:a+3<=l.length
  · have ds:¬(l.length:Int)<(a:Int)+3:=(by omega);have ct:=ad (CA _ l a W5 cs hn O);have cu:=ad (Ac l a O);generalize l[a]=x at *;generalize l[a+1]=y at *;generalize l[a+2]=z at *;have cv:Hid (kL l a=kj l a x y z):=(by show _=_;unfold kL kj;rw [ag O,cu.out]);have bd:Hid (∀ Q R U,(if Q=x/\R=y/\U=z then some a else kj l a Q R U)=kj l (a+1) Q R U):=fun Q R U=>by
      unfold kj;show _=if a+3<=l.length/\eG l a=[Q,R,U]then some a else _;rw [cu.out];by_cases hx:Q=x/\R=y/\U=z;· obtain⟨rfl,rfl,rfl⟩:=hx;rw [ag ⟨rfl,rfl,rfl⟩,ag ⟨O,rfl⟩]
      · rw [ae hx,ae (fun h=>hx (by have:=h.2;simp only [vF,nU]at this;exact⟨this.1.symm,this.2.1.symm,this.2.2.symm⟩))]
    go_wp2_with fail;refine ct.out.mono ?_;rintro e A ⟨rfl,V⟩;have h6:=V.heap h5;have c3:=b0.fr V;have b5:=b1.fr V;have c4:=aj.trans (V.chg (fun k=>k=g)) (fun _ _ h=>.inl h);have c5:=az dr V.size;clear h5 b0 b1 aj cs ct;unfold v3;go_upto_region 2 with fail;have X:Fr A (A.alloc (.cells #[.int .u8 (x.toNat:Int),.int .u8 (y.toNat:Int),.int .u8 (z.toNat:Int)] 291)):=(Fr.refl A).alloc _;have F:(A.alloc (.cells #[.int .u8 (x.toNat:Int),.int .u8 (y.toNat:Int),.int .u8 (z.toNat:Int)] 291)).heap[A.heap.size]?=some (.cells #[.int .u8 (x.toNat:Int),.int .u8 (y.toNat:Int),.int .u8 (z.toNat:Int)] 291 (0,0)):=a9 _ _ _ rfl;have G:=X.heap h6;have q:=c3.fr X;have Y:=b5.fr X;have bf:=c4.trans (X.chg (fun k=>k=g)) (fun _ _ h=>.inl h);have e5:=az c5 X.size;have e6:A.heap.size≠g:=(by have:=(aM.1 h6).1;omega);have e7:A.heap.size≠mb:=(by have:=b5.lt;omega);generalize A.alloc (.cells #[.int .u8 (x.toNat:Int),.int .u8 (y.toNat:Int),.int .u8 (z.toNat:Int)] 291)=d at *;clear X V h6 c3 b5 c4 c5;generalize A.heap.size=kb at *;have HL:=ad (fun(k:Nat)=>(Y.fr ((Fr.refl d).drewN k)).look (t:=217) tE Tryz.underlying5 tD Tryz.underlying217 Tryz.underlying3 (zw _) x y z);have bk:=HL.out 1;have g0:=af G 0 rfl;have g1:=af G 1 rfl;have q0:=af F 0 rfl;have q1:=af F 1 rfl;have q2:=af F 2 rfl;unfold v3 at bk;rw [show d.drewN 1=d.drew from rfl]at bk;have d0:=q.atHead (by simp);obtain⟨m,e8,ab,e9,eL,fa,fb⟩:=d0;rw [bb]at ab;cases ab;have d2:m≠g:=fun e=>q.ne_cells G (by decide) (by rw [<- e];rfl);have d3:m≠kb:=fun e=>q.ne_cells F (by decide) (by rw [<- e];rfl);have d4:m≠mb:=fun e=>qE q Y (by rw [<- e];rfl);have fc:ah (fun k=>k=m) d d->True:=fun _=>trivial;generalize Z:qM (kj l a x y z)=lv at *
    cases bl:kj l a x y z with
    | none=>
      rw [bl]at Z;unfold qM at Z;subst Z;have ak:Hid (iO l a++[(-1:Int)]=iO l (a+1)):=(by show _=_;rw [wZ];unfold o9;rw [cv.out,bl]);rw [ak.out]at q;go_region;all_goals go_wp2_with fail
      have aa:Fr d d.drew:=(Fr.refl d).drew;have ap:=Y.fr aa;have av:=q.fr aa;have h8:=aa.heap G;have I:=aa.heap F;have b7:=bf.trans (aa.chg (fun k=>k=g)) (fun _ _ h=>.inl h);clear Y q G F bf g0 g1 q0 q1 q2 bk HL aa;generalize d.drew=o at *;have b8:=ap.fr ((Fr.refl o).drewN 1);obtain⟨w9,a2,bA,a3⟩:=b8.upd (t:=217) (p:=a) tE Tryz.underlying5 tD Tryz.underlying217 Tryz.underlying3 (by unfold maxLen;omega) (by omega) x y z;unfold v3 at a2;rw [show o.drewN 1=o.drew from rfl]at a2 a3;have e0:=af h8 0 rfl;have r0:=af I 0 rfl;have r1:=af I 1 rfl;have r2:=af I 2 rfl;go_upto_region 6 with fail;go_region;all_goals go_wp2_with fail
      have bB:=((Fr.refl o).drewN 1).chg (fun k=>k=mb);have J:ah (fun k=>k=mb) o w9:=bB.trans a3 (fun _ _ h=>h);have h9:=J.heap h8 bv;have bR:=av.chg J (fun k hk e=>(qE av ap) (by rw [hk,e]));go_end0;exact⟨rfl,_,n+1,⟨h9,bA.congr bd.out,bR,bm,bs⟩,by omega,b7.trans J (fun _ _ h=>.inr (.inl h)),a7⟩
    | some p=>
      rw [bl]at Z;unfold qM at Z;subst Z;have ak:Hid ((iO l a++[(-1:Int)]).set a (p:Int)=iO l (a+1)):=JS l a _ (by unfold o9;rw [cv.out,bl]);have bT:=(q.set (fun n:Int=>Value.int .i64 n) rfl a (by rw [bb];omega) (p:Int) (.int .i64 (p:Int)) rfl).drew;rw [ak.out]at bT;have cb:=q.cellAt (fun n:Int=>Value.int .i64 n) rfl a (by rw [bb];omega);have a4:ah (fun k=>k=m) d (d.setCell ⟨m,a,none⟩ (.int .i64 (p:Int))).drew:=(ao d ⟨m,a,none⟩ (.int .i64 (p:Int))).trans (((Fr.refl _).drew).chg (fun k=>k=m)) (fun _ _ h=>h);have ap:=Y.chg a4 (fun e=>d4 e.symm);have h8:=a4.heap G (fun e=>d2 e.symm);have I:=a4.heap F (fun e=>d3 e.symm);have b7 := bf.trans a4 (fun i hi h => by
        have h' : i = m := h;rcases a7 m rfl with h1 | h1;· exact .inr (.inr (by rw [h1, h']))
        · omega)
      have ca:d.cell? ⟨m,a,none⟩=some _:=cb.1;have cf:d.frozen? ⟨m,a,none⟩=false:=cb.2;have ia:(a:Int)<(a:Int)+1:=(by omega);have fk:(0:Int)<=a:=(by omega);have av:=bT;go_region;all_goals go_wp2_with fail
      clear Y q G F bf g0 g1 q0 q1 q2 bk HL bT ca cf cb ia;clear a4;generalize (d.setCell ⟨m,a,none⟩ (.int .i64 (p:Int))).drew=o at *;have b8:=ap.fr ((Fr.refl o).drewN 1);obtain⟨w9,a2,bA,a3⟩:=b8.upd (t:=217) (p:=a) tE Tryz.underlying5 tD Tryz.underlying217 Tryz.underlying3 (by unfold maxLen;omega) (by omega) x y z;unfold v3 at a2;rw [show o.drewN 1=o.drew from rfl]at a2 a3;have e0:=af h8 0 rfl;have r0:=af I 0 rfl;have r1:=af I 1 rfl;have r2:=af I 2 rfl;go_upto_region 6 with fail;go_region;all_goals go_wp2_with fail
      have bB:=((Fr.refl o).drewN 1).chg (fun k=>k=mb);have J:ah (fun k=>k=mb) o w9:=bB.trans a3 (fun _ _ h=>h);have h9:=J.heap h8 bv;have bR:=av.chg J (fun k hk e=>(qE av ap) (by rw [hk,e]));go_end0;exact⟨rfl,_,n+1,⟨h9,bA.congr bd.out,bR,bm,bs⟩,by omega,b7.trans J (fun _ _ h=>.inr (.inl h)),a7⟩
  · have ds:(l.length:Int)<(a:Int)+3:=(by omega);have bd:Hid (∀ x y z,kj l a x y z=kj l (a+1) x y z):=fun x y z=>(by unfold kj;show _=if a+3<=l.length/\_ then _ else _;rw [ae (fun h=>O h.1)]);have ak:Hid (iO l a++[(-1:Int)]=iO l (a+1)):=(by show _=_;rw [wZ];unfold o9 kL;rw [ae O]);go_wp2_with fail;refine aL (results_none rfl _ _ _) rfl ?_;exact⟨rfl,_,n,⟨h5,b1.congr bd.out,by rw [<- ak.out];exact b0,bm,bs⟩,by omega,aj,a7⟩
def oB(o:Option Nat):Int:=match o with | some q=>(q:Int) | none=>-1
theorem JU(l:List UInt8)(p:Nat):o9 l p=oB (kL l p):=rfl
theorem Py(l:List UInt8)(a d:Nat)(t:Nat × Nat)(m:a<=l.length)(h:jr (dG l a d) t)(e:257<=t.1):(dG l a d).1=257:=by
 by_cases o:3<=(dG l a d).1;· have:=h.1 o;have q:=(uT l a m d).1;rw [this]at e;omega
 · have:=h.2 (by omega);rw [this]at e;simp at e
theorem LX(v:Value)(l:List UInt8)(base g mb a n:Nat)(pv:Value)(w:World)(hs:ai w eB v l)(hn:l.length<=1000000)(ha:a<l.length)(h:gR w base g mb l a n pv) :
  Calls Tryz.prog 141 #[.pointer (some ⟨g,0,none⟩),v,N a] w fun e w'=>∃ t:Nat × Nat,e=.returned (.tuple #[N t.1,N t.2])/\jr (gm l a) t/\t.1<=257/\t.2<=a/\Fr w w':=by
 have HS:=ad (fun W (o:Fr w W)=>hs.fr o);obtain⟨a0,di,rfl,dj,cf,dr⟩:=hs.shape;unfold maxLen at cf;obtain⟨h0,hM,hP,ds,d0⟩:=h;obtain⟨pa,pc,b0⟩:=hP.shape';rw [o0]at b0;subst b0;have ap:=ad (fun W (o:Fr w W)=>(by rw [aA (o.heap h0)];rfl:W.cell? ⟨g,0,none⟩=some (.map (some mb))));have ck:=ad (fun W (o:Fr w W)=>(by rw [aA (o.heap h0)];rfl:W.cell? ⟨g,1,none⟩=some (.slice pa a pc)));have HL:=ad (fun W (o:Fr w W) x y z=>(hM.fr o).look (t:=217) tE Tryz.underlying5 tD Tryz.underlying217 Tryz.underlying3 (zw _) x y z);have cl:=ad (fun W (o:Fr w W) p (K:p<a)=>(hP.fr o).see.cell1 (fun n:Int=>Value.int .i64 n) rfl p (by rw [o0];exact K));have cm:=ad (fun W (o:Fr w W) f (cn:f<a)=>M6 _ l f a W (HS.out W o) hn cn (by omega));clear hs hP hM h0;by_cases h3:a+3<=l.length
 · have cq:¬(l.length:Int)<(a:Int)+3:=(by omega);have a1:=ad (fun W (o:Fr w W)=>CA _ l a W (HS.out W o) hn h3);have cs:=ad (Ac l a h3);have X:Fr w w.drew:=(Fr.refl w).drew;have b2:Hid (kj l a (l[a]'(by omega)) (l[a+1]'(by omega)) (l[a+2]'(by omega))=ie l (eG l a) a):=(by show _=_;unfold kj;rw [cs.out]);generalize l[a]=x at *;generalize l[a+1]=y at *;generalize l[a+2]=z at *;have e0:=ap.out w (Fr.refl w);have R:v3 x y z=.agg #[.int .u8 (x.toNat:Int),.int .u8 (y.toNat:Int),.int .u8 (z.toNat:Int)]:=rfl;go_enter Tryz.func141, Tryz.ntmps141;go_upto_region 3 with fail;go_cut [8,9]from 16 to 26 (fun sv ov wx=>Fr w wx/\Hid (match ie l (eG l a) a with | some p=>sv=N p/\ov=.bool true | none=>sv=N 0/\ov=.bool false))
   case first=>
    cases D:kj l a x y z with
    | none=>
     go_region_with (go_at_call 182;refine((a1.out _ X).mono ?_);rintro e I ⟨rfl,a3⟩;have L:=X.trans a3;have c0:=ap.out I L;have M:=HL.out I L x y z;rw [D]at M;unfold qM at M;rw [R]at M;rw [R]);all_goals go_wp2_with fail
     all_goals go_meet
     all_goals exact⟨L,by show match ie l (eG l a) a with | some p=>_ | none=>_;rw [<- b2.out,D];exact⟨rfl,rfl⟩⟩
    | some p=>
     go_region_with (go_at_call 182;refine((a1.out _ X).mono ?_);rintro e I ⟨rfl,a3⟩;have L:=X.trans a3;have c0:=ap.out I L;have M:=HL.out I L x y z;rw [D]at M;unfold qM at M;rw [R]at M;rw [R]);all_goals go_wp2_with fail
     all_goals go_meet
     all_goals exact⟨L,by show match ie l (eG l a) a with | some p=>_ | none=>_;rw [<- b2.out,D];exact⟨rfl,rfl⟩⟩
   case rest=>
    generalize c3:wc=wd at *;clear c3 a1 e0 R;obtain⟨a4,Y⟩:=hcut
    cases D:ie l (eG l a) a with
    | none=>
     have U:=Y.out;rw [D]at U;obtain⟨rfl,rfl⟩:=U;have G:jr (gm l a) (0,0):=uK l a 0 (0,0) (an _) ⟨fun h=>absurd h (by simp [dG]),fun _=>rfl⟩ (.inr fun q F _=>C7 l _ a D q (by omega) (by omega));clear Y;go_wp2_with fail;go_loopw [6,7,8] (fun nv dv pv wr=>nv=N 0/\dv=N 0/\Fr w wr) (fun _ _ _ _=>0);case atStart=>exact⟨rfl,rfl,a4⟩
     case round=>obtain⟨rfl,rfl,o⟩:=hrel;go_wp2_with fail;go_ret2;exact⟨(0,0),rfl,G,by simp,by simp,o⟩
    | some p0=>
     have U:=Y.out;rw [D]at U;obtain⟨rfl,rfl⟩:=U;clear Y;have b6:Hid (oB (ie l (eG l a) (a - 0))=(p0:Int)):=(by show _=_;rw [Nat.sub_zero,D];rfl);go_wp2_with fail;go_loopw [6,7,8] (fun nv dv pv wr=>∃ (d:Nat) (t:Nat × Nat) (J:Int),pv=.int .i64 J/\nv=N t.1/\dv=N t.2/\d<=min 4095 a/\Hid (J=oB (ie l (eG l a) (a - d)))/\-1<=J/\J<a/\Hid (jr (dG l a d) t)/\t.1<=257/\t.2<=a/\Fr w wr) (fun _ _ pv _=>(intOf pv+1).toNat);case atStart=>exact⟨0,(0,0),p0,rfl,rfl,rfl,an _,b6.out.symm,by omega,by have:=(sf _ _ _ _ D).1;omega,⟨fun h=>absurd h (by simp [dG]),fun _=>rfl⟩,by simp,by simp,a4⟩
     case round=>
      clear a4 D b6;obtain⟨d,t,J,rfl,rfl,rfl,hd,Z,d2,d3,O,aC,ba,o⟩:=hrel;obtain⟨m,A⟩:=t;simp only at aC ba;go_upto_region 4 with fail;go_cut [41]from 27 to 41 (fun cv wx=>∃ V,cv=.bool V/\Hid (V=true->∃ q:Nat,J=q/\ie l (eG l a) (a - d)=some q/\a<=4095+q/\m<257)/\Hid (V=false->jr (gm l a) (m,A))/\wr=wx)
      case first=>
       cases F:ie l (eG l a) (a - d)with
       | none=>have K:=Z.out;rw [F]at K;have bb:J=-1:=K;have G:jr (gm l a) (m,A):=uK l a d (m,A) hd O.out (.inr fun q c5 _=>C7 l _ _ F q c5 (by omega));subst bb;go_wp2_with fail;go_meet;exact⟨false,rfl,(fun h=>by cases h),fun _=>G,rfl⟩
       | some q=>
        have K:=Z.out;rw [F]at K;have bb:J=(q:Int):=K;have bc:=sf _ _ _ _ F;have n1:¬(q:Int)=-1:=(by omega);have n2:((q:Int) == -1)=false:=(by simp);have n3:((q:Int) != -1)=true:=(by rw [bne,n2];rfl);subst bb;by_cases I:a<=4095+q
        · have c7:(a:Int) - q<=4095:=(by omega);by_cases w2:m<257;· have c8:(m:Int)<257:=(by omega);go_wp2_with fail;go_meet;exact⟨true,rfl,fun _=>⟨q,rfl,F,I,w2⟩,(fun h=>by cases h),rfl⟩
          · have c8:¬(m:Int)<257:=(by omega);have G:jr (gm l a) (m,A):=uK l a d (m,A) hd O.out (.inl (Py l a d (m,A) (by omega) O.out (by show 257<=m;omega)));go_wp2_with fail;go_meet;exact⟨false,rfl,(fun h=>by cases h),fun _=>G,rfl⟩
        · have c7:¬(a:Int) - q<=4095:=(by omega);have G:jr (gm l a) (m,A):=uK l a d (m,A) hd O.out (.inr fun r c9 d6=>bc.2.2.2 r (by omega) c9 (by omega));go_wp2_with fail;go_meet;exact⟨false,rfl,(fun h=>by cases h),fun _=>G,rfl⟩
      case rest=>
       obtain⟨V,rfl,HT,HF,rfl⟩:=hcut
       cases V with
       | false=>have G:=HF.out rfl;clear HT HF Z O;go_wp2_with fail;go_ret2;exact⟨(m,A),rfl,G,aC,ba,o⟩
       | true=>
        obtain⟨q,rfl,F,I,w2⟩:=HT.out rfl;have hg:=Px l a d q (m,A) h3 (by omega) F O.out;have bc:=sf _ _ _ _ F;have bk:q<a:=(by omega);obtain⟨bl,d7,b8⟩:=hg;have cB:=ad (cm.out wr o q bk);have b9:n4 l a (m,A) (a - q)=if m<ju l q a then(ju l q a,a - q)else(m,A):=(by unfold n4;rw [show a - (a - q)=q by omega]);rw [b9]at bl;have aa:=ad bl;have cE:=yT l 257 q a;rw [show ft l q a 257=ju l q a from rfl]at cE;have bA:=ad b8;have cF:(a:Int) - q=((a - q:Nat):Int):=(by omega);clear HT HF Z O b9 bl b8 F bc cF;generalize hk:ju l q a=k at *;clear hk;go_wp2_with fail;refine cB.out.mono ?_;rintro e w5 ⟨rfl,m5,bB⟩;have ab:Fr w w5:=(by rw [bB];exact o.drewN m5);clear bB;have c1:=ck.out w5 ab;obtain⟨pb,dE,dT,bL,cp⟩:=cl.out w5 ab q bk;rw [o0]at bL;cases bL;rw [JT l a q bk,JU]at cp;have i1:(0:Int)<=q:=(by omega);have i2:(q:Int)<a:=(by omega);have cR:-1<=oB (kL l q)/\oB (kL l q)<q:=by
         cases ac:kL l q with
         | none=>exact⟨Int.le_refl _,by show(-1:Int)<_;omega⟩
         | some r=>
          unfold kL at ac;split at ac;· have:=(sf _ _ _ _ ac).1;exact⟨by show(-1:Int)<=(r:Int);omega,by show(r:Int)<_;omega⟩
          · cases ac
        have bR:Hid (oB (kL l q)=oB (ie l (eG l a) (a - (a - q)))):=(by show _=_;rw [bA.out]);clear bA;generalize oB (kL l q)=np at *;obtain⟨ca,eq⟩:=cR;by_cases cb:m<k
        · have cT:(m:Int)<k:=(by omega);have Q:=aa.out;rw [ag cb]at Q;have HG:=ad Q;clear Q aa;go_wp2_with fail;go_roundw;case rel=>exact⟨a - q,(k,a - q),np,rfl,rfl,by go_num,by omega,bR,ca,by omega,HG,by show k<=257;omega,by show a - q<=a;omega,ab⟩
          case measure=>simp [intOf];omega
        · have cT:¬(m:Int)<k:=(by omega);have Q:=aa.out;rw [ae cb]at Q;have HG:=ad Q;clear Q aa;go_wp2_with fail;go_roundw;case rel=>exact⟨a - q,(m,A),np,rfl,rfl,rfl,by omega,bR,ca,by omega,HG,aC,ba,ab⟩
          case measure=>simp [intOf];omega
 · have cq:(l.length:Int)<(a:Int)+3:=(by omega);go_enter Tryz.func141, Tryz.ntmps141;go_wp2_with fail;go_ret2;exact⟨(0,0),rfl,⟨fun h=>absurd h (by have:=Qh l a (by omega) (by omega);omega),fun _=>rfl⟩,by simp,by simp,Fr.refl w⟩
section
variable {w0 w W:World} {base g mb a n B:Nat} {l:List UInt8} {pv:Value}
theorem yA(h:gR w base g mb l a n pv)(m:Below B w0 w)(o:B<=w.heap.size)(d:B<=base)(q:ah (fun k=>k=g\/k=mb\/pv.ownBlock=some k) w W):Below B w0 W:=
 ah.below m q o fun i e=>by
  rcases e with rfl | rfl | e
  · exact az d h.up
  · exact az d h.up2
  · exact az d (h.prev.lt i e).1
theorem DG{α:Type}{E:au Tryz.prog α}{z:Nat}{v:Value}{m:List α}(h:gR w base g mb l a n pv)(o:Ow w z E v m)(A:219≠E.e/\(eZ:au Tryz.prog Int).e≠E.e)(D:ah (fun k=>k=g\/k=mb\/pv.ownBlock=some k) w W):Ow W z E v m:=
 o.chg D fun k d e=>by
  rcases e with rfl | rfl | e
  · exact o.ne_cells h.at0 A.1 d
  · exact qE o h.map d
  · rcases jg o h.prev A.2 with q | q
    · rw [q]at d;cases d
    · exact q (d.trans e.symm)
theorem gR.fr(h:gR w base g mb l a n pv)(d:Fr w W):gR W base g mb l a n pv:=⟨d.heap h.at0,h.map.fr d,h.prev.fr d,h.up,h.up2⟩
theorem gR.chg{G:Nat->Prop}(h:gR w base g mb l a n pv)(d:ah G w W)(e:¬G g)(m:¬G mb)(o:∀ k,pv.ownBlock=some k->¬G k):gR W base g mb l a n pv:=⟨d.heap h.at0 e,h.map.chg d m,h.prev.chg d o,h.up,h.up2⟩
theorem gR.app{α:Type}{E:au Tryz.prog α}{z:Nat}{v v':Value}{m D:List α}(h:gR w base g mb l a n pv)(d:Ow w z E v m)(A:219≠E.e/\E.e≠(eZ:au Tryz.prog Int).e)(F:dg z E D w v v' W):gR W base g mb l a n pv:=
 h.chg F.chg' (fun e=>d.ne_cells h.at0 A.1 e) (fun e=>qE d h.map e) fun k o e=>by
  rcases jg h.prev d A.2 with q | q
  · rw [q]at o;cases o
  · exact q (o.trans e.symm)
end
theorem Sc (v : Value) (l : List UInt8) (w : World) (hs : ai w eB v l) (hn : l.length ≤ 1000000) :
    Calls Tryz.prog 97 #[v] w fun e w'=>∃ v',e=.returned v'/\Ow w' w.heap.size jp v' (jL l)/\Fr w w':=by
  have HS:=ad (fun W (h:Fr w W)=>hs.fr h);obtain⟨a0,d1,rfl,d2,c1,d3⟩:=hs.shape;unfold maxLen at c1;have HB:=ad (fun W (h:Fr w W) k I=>nO (HS.out W h) k I);have c4:=ad (fun W (o:Fr w W) g mb a n pv (X:a<l.length) (D:gR W w.heap.size g mb l a n pv)=>LX _ l w.heap.size g mb a n pv W (HS.out W o) hn X D);have HAdd:=ad (fun W a n pv (o:Fr w W) (X:a<l.length) (D:gR W w.heap.size (w.heap.size+1) w.heap.size l a n pv) (a3:n<=a)=>QA _ l w.heap.size (w.heap.size+1) w.heap.size a n pv W (HS.out W o) hn X D a3 (fun W' c6=>HS.out W' (yA D o (by have:=o.size;omega) (am _) c6)));have c7:=@run_makeMap Tryz.prog;have cb:Fr w (w.alloc (.map #[] 0)):=(Fr.refl w).alloc _;have cc:=fu.made w Tryz.prog 291 3;clear hs;go_enter Tryz.func97, Tryz.ntmps97;go_wp2_with fail;have cf:((w.alloc (.map #[] 0)).alloc (.cells #[.map (some w.heap.size),.slice none 0 0] 219)).heap[w.heap.size+1]?=some (.cells #[.map (some w.heap.size),.slice none 0 0] 219 (0,0)):=(by exact a9 (w.alloc (.map #[] 0)) _ (w.heap.size+1) (by rw [eg]));have bf:Fr (w.alloc (.map #[] 0)) ((w.alloc (.map #[] 0)).alloc (.cells #[.map (some w.heap.size),.slice none 0 0] 219)):=(Fr.refl _).alloc _
  have ch:gR ((w.alloc (.map #[] 0)).alloc (.cells #[.map (some w.heap.size),.slice none 0 0] 219)) w.heap.size (w.heap.size+1) w.heap.size l 0 0 (.slice none 0 0):=
    ⟨cf,cc.fr bf,Ow.nil,by omega,am _⟩
  have cj:=cb.trans bf;generalize (w.alloc (.map #[] 0)).alloc (.cells #[.map (some w.heap.size),.slice none 0 0] 219)=W0 at *;clear cb bf cf cc c7;go_loopw [4,5] (fun ov Q wr=>∃ (a n:Nat) (pv:Value) (m:List aW),a<=l.length/\Q=N a/\Ow wr w.heap.size jp ov m/\m.length<=a/\Hid (jL l=m++iB l a)/\gR wr w.heap.size (w.heap.size+1) w.heap.size l a n pv/\n<=a/\Fr w wr) (fun _ Q _=>l.length - (intOf Q).toNat);case atStart=>exact⟨0,0,_,[],an _,rfl,Ow.nil,an _,rfl,ch,am _,cj⟩
  case round=>
    clear ch cj;obtain⟨a,n,pv,m,X,rfl,A,d5,Y,q,a3,o⟩:=hrel;obtain⟨va,vc,cE⟩:=A.shape';subst cE;by_cases a4:a<l.length
    · have d6:(a:Int)<l.length:=(by omega);obtain⟨b,cF,d7,hv,cA⟩:=HB.out wr o a a4;cases hv;have HM:=ad (yj l a a4);have HL:=ad (yk l a a4);have ck:=uT l a X (min 4095 a);rw [show dG l a (min 4095 a)=gm l a from rfl]at ck;generalize hx:l[a]=x at *;replace cA:wr.cell? ⟨b,cF+a,none⟩=some (.int .u8 ((x.toNat:Nat):Int)):=cA;have a5:Fr wr (wr.alloc (.cells #[.int .u8 (x.toNat:Int),.int .i64 0,.int .i64 0] 212)):=(Fr.refl wr).alloc _;have cl:(wr.alloc (.cells #[.int .u8 (x.toNat:Int),.int .i64 0,.int .i64 0] 212)).heap[wr.heap.size]?=some (.cells #[.int .u8 (x.toNat:Int),.int .i64 0,.int .i64 0] 212 (0,0)):=a9 _ _ _ rfl;have d9:w.heap.size+1<wr.heap.size:=(aM.1 q.at0).1;have cL:∀ k,pv.ownBlock=some k->k<wr.heap.size:=fun k I=>(q.prev.lt k I).2;have cN:∀ k,(Value.slice va m.length vc).ownBlock=some k->k<wr.heap.size:=fun k I=>(A.lt k I).2;have bu:=q.fr a5;have cm:=A.fr a5;have bv:=o.trans a5;have cn:=ad (c4.out _ bv _ _ a n pv a4 bu);go_upto_region 5 with fail;go_wp2_with fail;generalize wr.alloc (.cells #[.int .u8 (x.toNat:Int),.int .i64 0,.int .i64 0] 212)=WA at *;refine cn.out.mono ?_;rintro e Z ⟨⟨d,F⟩,rfl,a6,cR,cT,a7⟩;simp only at cR cT;have aC:=bu.fr a7;have ba:=cm.fr a7;have aa:=bv.trans a7;have O:=a7.heap cl;clear q A o a5 cl bu cm bv cn cA;generalize da:gm l a=bk at *;clear da;generalize wr.heap.size=z at *;have j0:=af O 0 rfl;have j1:=af O 1 rfl;have j2:=af O 2 rfl;have f0:=al O 0;have f1:=al O 1;have f2:=al O 2;by_cases h3:3<=bk.1
      · have R:=a6.1 h3;have ab:bk.1=d:=(by rw [<- R]);have bb:bk.2=F:=(by rw [<- R]);rw [ab]at h3 ck;have dT:(3:Int)<=d:=(by omega);have ac:Hid (jL l=(m++[⟨0,d,F⟩])++iB l (a+d)):=by show _=_;rw [Y.out,HM.out (by omega),ab,bb];simp
        have bc:ah (fun k=>k=z) Z (((Z.setCell ⟨z,0,none⟩ (.int .u8 0)).setCell ⟨z,1,none⟩ (N d)).setCell ⟨z,2,none⟩ (N F)):=
          ((ao Z ⟨z,0,none⟩ _).trans (ao _ ⟨z,1,none⟩ _) (fun _ _ h=>h)).trans (ao _ ⟨z,2,none⟩ _) (fun _ _ h=>h)
        have aj:=aC.chg bc (by omega) (by omega) (fun k I e=>by have:=cL k I;omega);have J:=ba.chg bc (fun k I e=>by have:=cN k I;omega);have K:Fr w _:=ah.below aa bc aa.size (fun i e=>by omega);have dc:Hid (jp.enc (⟨0,d,F⟩:aW)=[.int .u8 0,N d,N F]):=rfl;clear aC ba aa HM HL Y a6 R ab bb;go_upto_region 11 with fail
        have b1:(((Z.setCell ⟨z,0,none⟩ (.int .u8 0)).setCell ⟨z,1,none⟩ (N d)).setCell ⟨z,2,none⟩ (N F)).heap[z]?=some (.cells #[.int .u8 0,N d,N F] 212 (0,0)):=
          a8 (a8 (a8 O 0 _) 1 _) 2 _
        clear bc j0 j1 j2 f0 f1 f2 O dc;generalize ((Z.setCell ⟨z,0,none⟩ (.int .u8 0)).setCell ⟨z,1,none⟩ (N d)).setCell ⟨z,2,none⟩ (N F)=W5 at *;have j0:=af b1 0 rfl;have j1:=af b1 1 rfl;have j2:=af b1 2 rfl;go_wp2_with (at_builtin;refine cW jp rfl (.tmp 35) (.tmp 37) 153 rfl Tryz.underlying153 w.heap.size rfl J [⟨0,d,F⟩] _ _ _ rfl rfl rfl (by simp;omega) K.size ?_);intro v' w6 L;have b2:=aj.app J (by decide) L;have b3:=L.own;have b4:=L.below J K (am _) K.size;clear L aj J K;go_wp2_with fail;go_loopw [5,40] (fun Q U V=>∃ (j G:Nat) (M:Value),j<=d/\U=N j/\Q=N (a+j)/\gR V w.heap.size (w.heap.size+1) w.heap.size l (a+j) G M/\G<=a+j/\Ow V w.heap.size jp v' (m++[⟨0,d,F⟩])/\Fr w V) (fun _ U _=>d - (intOf U).toNat);case atStart=>exact⟨0,n,pv,an _,rfl,rfl,b2,a3,b3,b4⟩
        case round=>
          obtain⟨j,G,M,hj,rfl,rfl,q,ak,A,o⟩:=hrel;by_cases dr:j<d
          · have ds:(j:Int)<d:=(by omega);have b5:=ad (HAdd.out wr (a+j) G M o (by omega) q ak);have b6:=ad (fun W D=>yA (W:=W) q o (by have:=o.size;omega) (am _) D);have b7:=ad (fun W D=>DG (W:=W) q A (by decide) D);clear q A;go_wp2_with fail;refine b5.out.mono ?_;rintro e w5 ⟨rfl,b8,n5,bA,bB,a1,_⟩;have bL:=b6.out w5 a1;have bR:=b7.out w5 a1;go_wp2_with fail;go_roundw;case rel=>exact⟨j+1,n5,b8,by omega,by go_num,by go_num,bA,bB,bR,bL⟩
            case measure=>simp [intOf];omega
          · obtain rfl:d=j:=(by omega);have dv:¬(d:Int)<d:=(by omega);go_wp2_with fail;go_roundw;case rel=>exact⟨a+d,G,M,(m++[⟨0,d,F⟩]),by omega,by go_num,A,by simp;omega,ac,q,ak,o⟩
            case measure=>simp [intOf];omega
      · have R:=a6.2 (by omega);have ab:d=0:=(by have:=gS Prod.fst R;exact this);have bb:F=0:=(by have:=gS Prod.snd R;exact this);subst ab;subst bb;have ac:Hid (jL l=(m++[⟨x,0,0⟩])++iB l (a+1)):=(by show _=_;rw [Y.out,HL.out h3];simp);have aj:=aC;have J:=ba;have K:=aa;clear aC ba aa HM HL Y a6 R f0 f1 f2;obtain⟨st,ef⟩:∃ st,st=1:=⟨1,rfl⟩;go_upto_region 11 with fail;go_wp2_with (at_builtin;refine cW jp rfl (.tmp 35) (.tmp 37) 153 rfl Tryz.underlying153 w.heap.size rfl J [⟨x,0,0⟩] _ _ _ rfl rfl rfl (by simp;omega) K.size ?_);intro v' w6 L;have b2:=aj.app J (by decide) L;have b3:=L.own;have b4:=L.below J K (am _) K.size;clear L aj J K;go_wp2_with fail;go_loopw [5,40] (fun Q U V=>∃ (j G:Nat) (M:Value),j<=1/\U=N j/\Q=N (a+j)/\gR V w.heap.size (w.heap.size+1) w.heap.size l (a+j) G M/\G<=a+j/\Ow V w.heap.size jp v' (m++[⟨x,0,0⟩])/\Fr w V) (fun _ U _=>1 - (intOf U).toNat);case atStart=>exact⟨0,n,pv,an _,rfl,rfl,b2,a3,b3,b4⟩
        case round=>
          obtain⟨j,G,M,hj,rfl,rfl,q,ak,A,o⟩:=hrel;by_cases dr:j<1
          · have ds:(j:Int)<1:=(by omega);have b5:=ad (HAdd.out wr (a+j) G M o (by omega) q ak);have b6:=ad (fun W D=>yA (W:=W) q o (by have:=o.size;omega) (am _) D);have b7:=ad (fun W D=>DG (W:=W) q A (by decide) D);clear q A;go_wp2_with fail;refine b5.out.mono ?_;rintro e w5 ⟨rfl,b8,n5,bA,bB,a1,_⟩;have bL:=b6.out w5 a1;have bR:=b7.out w5 a1;go_wp2_with fail;go_roundw;case rel=>exact⟨j+1,n5,b8,by omega,by go_num,by go_num,bA,bB,bR,bL⟩
            case measure=>simp [intOf];omega
          · obtain rfl:1=j:=(by omega);have dv:¬(1:Int)<1:=(by omega);go_wp2_with fail;go_roundw;case rel=>exact⟨a+1,G,M,(m++[⟨x,0,0⟩]),by omega,by go_num,A,by simp;omega,ac,q,ak,o⟩
            case measure=>simp [intOf];omega
    · obtain rfl:a=l.length:=(by omega);have eq:¬(l.length:Int)<l.length:=(by omega);have ac:Hid (m=jL l):=(by show _=_;rw [Y.out,yl l _ (am _),gq]);go_wp2_with fail;go_ret;exact⟨_,rfl,by rw [<- ac.out];exact A,o⟩
end Go.Proofs.YtfpijnhhdfoohaaGreatDoor
