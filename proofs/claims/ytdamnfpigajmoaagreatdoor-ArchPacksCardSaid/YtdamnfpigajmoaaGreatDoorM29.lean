/- Parts of the proof of ArchPacks: Z3 Z4 Z5 Z6. -/
import Derived.Test.YtdamnfpigajmoaaGreatDoorM26
import Derived.Test.YtdamnfpigajmoaaGreatDoorM28
import Derived.Test.YtdamnfpigajmoaaGreatDoorM17
import Derived.WideKeyArr
set_option linter.unusedVariables false
set_option linter.unusedSectionVars false
set_option linter.unusedSimpArgs false
set_option maxHeartbeats 8000000
set_option maxRecDepth 100000
namespace Go.Proofs.YtdamnfpigajmoaaGreatDoor
open Go.RowKit Go.Fk
theorem qg:Go.WideMaps.ArrKey Tryz.prog 296 5 3:=⟨Tryz.underlying296,by kernel_rfl,by kernel_rfl,by kernel_rfl⟩
theorem qf:∃ m,(Tryz.prog).types.size=m+1:=⟨(Tryz.prog).types.size - 1,by kernel_rfl⟩
theorem wj(w:World):(zeroValue 3).run Tryz.prog w=.ok (.int .i64 0) w:=by kernel_rfl
theorem Ea{P:Program}{o:Func}{p:Tmp}{e:TypeId}(h:o.results=#[.cell p e])(tmps:Array Value)(w:World)(g:Nat)(t:TypeId)(m:Array Value)(q:Nat × Nat)(d:TypeDesc)
  (hp:tmps.getD p undef=.pointer (some ⟨g,0,none⟩)) (hg:w.heap[g]? = some (.cells m t q))
  (hu:P.underlying e=some d) (hd:(match d with | .struct _ | .array _ _=>true | _=>false)=true) (hi:(P.info? e).map (·.size)=some m.size) :
  (results o tmps).run P w=.ok (.agg m) w:=by
 have y:tmps[p]?.getD undef=.pointer (some ⟨g,0,none⟩):=by simpa using hp
 simp [results,h,y,asAddr,run_loadVar_row w g t e m q d hg hu hd hi]
theorem wI(l:List UInt8)(a:Nat)(h:a+3<=l.length):dV l a=[l[a]'(by omega),l[a+1]'(by omega),l[a+2]'(by omega)]:=by
 unfold dV;rw [cM (by omega),fj,cM (by omega),fj,cM (by omega),fj,gH]
theorem yY (v : Value) (l : List UInt8) (a : Nat) (w : World) (m : af w eB v l) (Q : l.length ≤ 1000000) (R : a + 3 ≤ l.length) :
    Calls Tryz.prog 218 #[v,N a] w fun e w'=>e=.returned (v3 (l[a]'(by omega)) (l[a+1]'(by omega)) (l[a+2]'(by omega)))/\Fr w w':=by
  obtain⟨b,T,U,F,q⟩:=gE m a (by omega);have V:=m.shape;subst F;obtain⟨X,Y,Z,G,D⟩:=gE m (a+1) (by omega);cases G;obtain⟨b2,ab,ac,I,c2⟩:=gE m (a+2) (by omega);cases I;have o:Fr w (w.alloc (.cells #[.int .u8 0,.int .u8 0,.int .u8 0] 296)):=(Fr.refl w).alloc _;have d:(w.alloc (.cells #[.int .u8 0,.int .u8 0,.int .u8 0] 296)).heap[w.heap.size]? = some (.cells #[.int .u8 0,.int .u8 0,.int .u8 0] 296 (0,0)):=au _ _ _ rfl;have J:(a:Int)+1=((a+1:Nat):Int):=(by omega);have i1:(a:Int)<l.length:=(by omega);have i2:(a:Int)+1<l.length:=(by omega);have i3:(a:Int)+2<l.length:=(by omega);clear m J;generalize l[a]=x at *;generalize l[a+1]=y at *;generalize l[a+2]=z at *;replace q:=o.cell q;replace D:=o.cell D;replace c2:=o.cell c2;have e0:(w.alloc (.cells #[.int .u8 0,.int .u8 0,.int .u8 0] 296)).cell? ⟨w.heap.size,0,none⟩=some (.int .u8 0):=(by rw [aL d];rfl);have e1:(w.alloc (.cells #[.int .u8 0,.int .u8 0,.int .u8 0] 296)).cell? ⟨w.heap.size,1,none⟩=some (.int .u8 0):=(by rw [aL d];rfl);have e2:(w.alloc (.cells #[.int .u8 0,.int .u8 0,.int .u8 0] 296)).cell? ⟨w.heap.size,2,none⟩=some (.int .u8 0):=(by rw [aL d];rfl);have f0:=az d 0;have f1:=az d 1;have f2:=az d 2;go_enter Tryz.func218, Tryz.ntmps218;go_upto_region 1 with fail;generalize hW:w.alloc (.cells #[.int .u8 0,.int .u8 0,.int .u8 0] 296)=W at *;go_region;all_goals go_wp2_with fail
  have K:(((W.setCell ⟨w.heap.size,0,none⟩ (.int .u8 (x.toNat:Int))).setCell ⟨w.heap.size,1,none⟩ (.int .u8 (y.toNat:Int))).setCell ⟨w.heap.size,2,none⟩ (.int .u8 (z.toNat:Int))).drew.heap[w.heap.size]? = some (.cells #[.int .u8 (x.toNat:Int),.int .u8 (y.toNat:Int),.int .u8 (z.toNat:Int)] 296 (0,0)):=
    aB (aB (aB d 0 _) 1 _) 2 _
  have L:ak (fun k=>k=w.heap.size) W (((W.setCell ⟨w.heap.size,0,none⟩ (.int .u8 (x.toNat:Int))).setCell ⟨w.heap.size,1,none⟩ (.int .u8 (y.toNat:Int))).setCell ⟨w.heap.size,2,none⟩ (.int .u8 (z.toNat:Int))):=
    ((aw W ⟨w.heap.size,0,none⟩ _).trans (aw _ ⟨w.heap.size,1,none⟩ _) (fun _ _ h=>h)).trans (aw _ ⟨w.heap.size,2,none⟩ _) (fun _ _ h=>h)
  have M:Fr w _:=(ak.below o L o.size (fun k O=>gZ O.symm)).drew;exact b6Qb (v:=v3 x y z) (Ea Tryz.results218 _ _ w.heap.size 296 _ (0,0) _ rfl K Tryz.underlying296 rfl (by kernel_rfl)) rfl ⟨rfl,M⟩
def eZ:al Tryz.prog Int:=⟨3,1,8,0,.int .i64 0,fun n=>[.int .i64 n],by kernel_rfl,by decide,by decide,by simp [Value.cells],fun _=>rfl,by intro x u d;simp at d;subst d;rfl⟩
def lE(l:List UInt8)(p:Nat):Int:=match iZ l p with | some q=>(q:Int) | none=>-1
def gx(l:List UInt8)(a:Nat):List Int:=(List.range a).map (lE l)
theorem lD(l:List UInt8)(a:Nat):(gx l a).length=a:=by simp [gx]
theorem t7(l:List UInt8)(a:Nat):gx l (a+1)=gx l a++[lE l a]:=by simp [gx,jt]
theorem E1(l:List UInt8)(a p:Nat)(h:p<a):(gx l a)[p]'(by rw [lD];exact h)=lE l p:=by simp [gx]
theorem E0(l:List UInt8)(a:Nat)(x:Int)(h:x=lE l a):(gx l a++[-1]).set a x=gx l (a+1):=by
 rw [t7,h,List.set_append];simp [lD]
def iH(l:List UInt8)(a:Nat)(x y z:UInt8):Option Nat:=fS l [x,y,z] a
structure fI (w:World) (base g mb:Nat) (l:List UInt8) (a n:Nat) (pv:Value):Prop where
 at0:w.heap[g]? = some (.cells #[.map (some mb),pv] 215 (0,0))
 map:ew w Tryz.prog 296 3 mb n (iH l a)
 prev:Ow w base eZ pv (gx l a)
 up:base<=g
 up2:base<=mb
theorem ny{α:Type}{E:al Tryz.prog α}{w:World}{base mb n:Nat}{k e:TypeId}{f:UInt8->UInt8->UInt8->Option Nat}{v:Value}{m:List α}(h:Ow w base E v m)(y:ew w Tryz.prog k e mb n f):v.ownBlock≠some mb:=by
 intro d;obtain⟨D,⟨A,F,z,_⟩,_⟩:=y;rcases h.2 with⟨o,_⟩ | ⟨g,G,I,o,_,q,_⟩;· rw [o]at d;cases d
 · rw [o]at d;have:g=mb:=(by simpa [Value.ownBlock] using d);rw [this,z]at q;cases q
theorem IY (v : Value) (l : List UInt8) (base g mb a n : Nat) (pv : Value) (w : World) (hs : af w eB v l) (hn : l.length ≤ 1000000) (ha : a < l.length) (h : fI w base g mb l a n pv) (e7 : n ≤ a) (dk : ∀ W, ak (fun k => k = g ∨ k = mb ∨ pv.ownBlock = some k) w W → af W eB v l) :
    Calls Tryz.prog 151 #[.pointer (some ⟨g,0,none⟩),v,N a] w fun e w'=>e=.returned (.tuple #[])/\∃ cs n',fI w' base g mb l (a+1) n' cs/\n'<=a+1/\ak (fun k=>k=g\/k=mb\/pv.ownBlock=some k) w w'/\(∀ b,cs.ownBlock=some b->pv.ownBlock=some b\/w.heap.size<=b):=by
  obtain⟨a0,fa,rfl,fb,dl,fc⟩:=hs.shape;unfold maxLen at dl;obtain⟨K,hM,hP,bv,bx⟩:=h;obtain⟨pa,pc,ab⟩:=hP.shape';rw [lD]at ab;subst ab;have e0:=ae K 0 rfl;have e1:=ae K 1 rfl;have d0:=hP.ne_cells K (by decide);have d2:=ny hP hM;have b0:g≠mb:=(by intro e;obtain⟨D,⟨es,fk,hb,_⟩,_⟩:=hM;rw [<- e,K]at hb;cases hb);have cx:base<=w.heap.size:=(by have:=(aR.1 K).1;omega);clear hs;go_enter Tryz.func151, Tryz.ntmps151;go_wp2_with (at_builtin;refine aM eZ rfl (.tmp 13) (.tmp 14) 57 rfl Tryz.underlying57 base rfl hP [-1] _ _ _ rfl rfl rfl (by rw [lD];simp;omega) cx ?_);intro v' w4 L;have M:=L.chg'.heap K (fun e=>d0 e);have ba:=L.own;have bb:=L.fresh;have cy:ak (fun k=>k=g\/k=mb\/(Value.slice pa a pc).ownBlock=some k) w w4:=L.chg'.mono (fun k _ h=>.inr (.inr h));have cz:=hM.chg L.chg' (fun e=>d2 e);obtain⟨qa,qc,c3⟩:=ba.shape';have bf:(gx l a++[(-1:Int)]).length=a+1:=(by rw [an,lD];rfl);rw [bf]at c3;subst c3;have c0:=ae M 0 rfl;have c1:=ae M 1 rfl;have d1:w4.frozen? ⟨g,1,none⟩=false:=az M 1;clear hP hM L e0 e1;go_upto_region 1 with fail;have h5:(w4.setCell ⟨g,1,none⟩ (.slice qa (a+1) qc)).heap[g]? = some (.cells #[.map (some mb),.slice qa (a+1) qc] 215 (0,0)):=aB M 1 _;have bk:ak (fun k=>k=g) w4 (w4.setCell ⟨g,1,none⟩ (.slice qa (a+1) qc)):=aw w4 ⟨g,1,none⟩ _;have b2:=ba.chg bk (fun k hk e=>(ba.ne_cells M (by decide)) (by rw [hk,e]));have b3:=cz.chg bk (fun e=>b0 e.symm);have aj:=cy.trans bk (fun _ _ h=>.inl h);generalize w4.setCell ⟨g,1,none⟩ (.slice qa (a+1) qc)=W5 at *;have c4:=dk W5 aj;have d6:base<=W5.heap.size:=aq cx aj.size;clear ba cz cy bk M c0 c1 d1;by_cases O:a+3<=l.length
  · have d7:¬(l.length:Int)<(a:Int)+3:=(by omega);have c5:=ad (yY _ l a W5 c4 hn O);have c6:=ad (wI l a O);generalize l[a]=x at *;generalize l[a+1]=y at *;generalize l[a+2]=z at *;have c7:Hid (iZ l a=iH l a x y z):=(by show _=_;unfold iZ iH;rw [ai O,c6.out]);have bm:Hid (∀ Q R T,(if Q=x/\R=y/\T=z then some a else iH l a Q R T)=iH l (a+1) Q R T):=fun Q R T=>by
      unfold iH;show _=if a+3<=l.length/\dV l a=[Q,R,T]then some a else _;rw [c6.out];by_cases hx:Q=x/\R=y/\T=z;· obtain⟨rfl,rfl,rfl⟩:=hx;rw [ai ⟨rfl,rfl,rfl⟩,ai ⟨O,rfl⟩]
      · rw [ah hx,ah (fun h=>hx (by have:=h.2;simp only [lZ,iR]at this;exact⟨this.1.symm,this.2.1.symm,this.2.2.symm⟩))]
    go_wp2_with fail;refine c5.out.mono ?_;rintro e A ⟨rfl,U⟩;have h6:=U.heap h5;have c8:=b2.fr U;have bA:=b3.fr U;have c9:=aj.trans (U.chg (fun k=>k=g)) (fun _ _ h=>.inl h);have cA:=aq d6 U.size;clear h5 b2 b3 aj c4 c5;unfold v3;go_upto_region 2 with fail;have V:Fr A (A.alloc (.cells #[.int .u8 (x.toNat:Int),.int .u8 (y.toNat:Int),.int .u8 (z.toNat:Int)] 296)):=(Fr.refl A).alloc _;have F:(A.alloc (.cells #[.int .u8 (x.toNat:Int),.int .u8 (y.toNat:Int),.int .u8 (z.toNat:Int)] 296)).heap[A.heap.size]? = some (.cells #[.int .u8 (x.toNat:Int),.int .u8 (y.toNat:Int),.int .u8 (z.toNat:Int)] 296 (0,0)):=au _ _ _ rfl;have G:=V.heap h6;have q:=c8.fr V;have X:=bA.fr V;have bn:=c9.trans (V.chg (fun k=>k=g)) (fun _ _ h=>.inl h);have fl:=aq cA V.size;have fm:A.heap.size≠g:=(by have:=(aR.1 h6).1;omega);have fn:A.heap.size≠mb:=(by have:=bA.lt;omega);generalize A.alloc (.cells #[.int .u8 (x.toNat:Int),.int .u8 (y.toNat:Int),.int .u8 (z.toNat:Int)] 296)=d at *;clear V U h6 c8 bA c9 cA;generalize A.heap.size=kb at *;have HL:=ad (fun(k:Nat)=>(X.fr ((Fr.refl d).drewN k)).look (t:=213) qg Tryz.underlying5 qf Tryz.underlying213 Tryz.underlying3 (wj _) x y z);have bt:=HL.out 1;have g0:=ae G 0 rfl;have g1:=ae G 1 rfl;have q0:=ae F 0 rfl;have q1:=ae F 1 rfl;have q2:=ae F 2 rfl;unfold v3 at bt;rw [show d.drewN 1=d.drew from rfl]at bt;have d9:=q.atHead (by simp);obtain⟨m,fr,ab,fs,fv,f0,f1⟩:=d9;rw [bf]at ab;cases ab;have dT:m≠g:=fun e=>q.ne_cells G (by decide) (by rw [<- e];rfl);have ec:m≠kb:=fun e=>q.ne_cells F (by decide) (by rw [<- e];rfl);have ef:m≠mb:=fun e=>ny q X (by rw [<- e];rfl);have f2:ak (fun k=>k=m) d d->True:=fun _=>trivial;generalize Y:nC (iH l a x y z)=lv at *
    cases bu:iH l a x y z with
    | none=>
      rw [bu]at Y;unfold nC at Y;subst Y;have av:Hid (gx l a++[(-1:Int)]=gx l (a+1)):=(by show _=_;rw [t7];unfold lE;rw [c7.out,bu]);rw [av.out]at q;go_region;all_goals go_wp2_with fail
      have Z:Fr d d.drew:=(Fr.refl d).drew;have a1:=X.fr Z;have a2:=q.fr Z;have h8:=Z.heap G;have I:=Z.heap F;have bR:=bn.trans (Z.chg (fun k=>k=g)) (fun _ _ h=>.inl h);clear X q G F bn g0 g1 q0 q1 q2 bt HL Z;generalize d.drew=o at *;have cb:=a1.fr ((Fr.refl o).drewN 1);obtain⟨w9,a4,ch,a5⟩:=cb.upd (t:=213) (p:=a) qg Tryz.underlying5 qf Tryz.underlying213 Tryz.underlying3 (by unfold maxLen;omega) (by omega) x y z;unfold v3 at a4;rw [show o.drewN 1=o.drew from rfl]at a4 a5;have e0:=ae h8 0 rfl;have r0:=ae I 0 rfl;have r1:=ae I 1 rfl;have r2:=ae I 2 rfl;go_upto_region 6 with fail;go_region;all_goals go_wp2_with fail
      have cj:=((Fr.refl o).drewN 1).chg (fun k=>k=mb);have J:ak (fun k=>k=mb) o w9:=cj.trans a5 (fun _ _ h=>h);have h9:=J.heap h8 b0;have cm:=a2.chg J (fun k hk e=>(ny a2 a1) (by rw [hk,e]));go_end0;exact⟨rfl,_,n+1,⟨h9,ch.congr bm.out,cm,bv,bx⟩,by omega,bR.trans J (fun _ _ h=>.inr (.inl h)),bb⟩
    | some p=>
      rw [bu]at Y;unfold nC at Y;subst Y;have av:Hid ((gx l a++[(-1:Int)]).set a (p:Int)=gx l (a+1)):=E0 l a _ (by unfold lE;rw [c7.out,bu]);have cn:=(q.set (fun n:Int=>Value.int .i64 n) rfl a (by rw [bf];omega) (p:Int) (.int .i64 (p:Int)) rfl).drew;rw [av.out]at cn;have co:=q.cellAt (fun n:Int=>Value.int .i64 n) rfl a (by rw [bf];omega);have a6:ak (fun k=>k=m) d (d.setCell ⟨m,a,none⟩ (.int .i64 (p:Int))).drew:=(aw d ⟨m,a,none⟩ (.int .i64 (p:Int))).trans (((Fr.refl _).drew).chg (fun k=>k=m)) (fun _ _ h=>h);have a1:=X.chg a6 (fun e=>ef e.symm);have h8:=a6.heap G (fun e=>dT e.symm);have I:=a6.heap F (fun e=>ec e.symm);have bR := bn.trans a6 (fun i hi h => by
        have h' : i = m := h;rcases bb m rfl with h1 | h1;· exact .inr (.inr (by rw [h1, h']))
        · omega)
      have ca:d.cell? ⟨m,a,none⟩=some _:=co.1;have cf:d.frozen? ⟨m,a,none⟩=false:=co.2;have ia:(a:Int)<(a:Int)+1:=(by omega);have f5:(0:Int)<=a:=(by omega);have a2:=cn;go_region;all_goals go_wp2_with fail
      clear X q G F bn g0 g1 q0 q1 q2 bt HL cn ca cf co ia;clear a6;generalize (d.setCell ⟨m,a,none⟩ (.int .i64 (p:Int))).drew=o at *;have cb:=a1.fr ((Fr.refl o).drewN 1);obtain⟨w9,a4,ch,a5⟩:=cb.upd (t:=213) (p:=a) qg Tryz.underlying5 qf Tryz.underlying213 Tryz.underlying3 (by unfold maxLen;omega) (by omega) x y z;unfold v3 at a4;rw [show o.drewN 1=o.drew from rfl]at a4 a5;have e0:=ae h8 0 rfl;have r0:=ae I 0 rfl;have r1:=ae I 1 rfl;have r2:=ae I 2 rfl;go_upto_region 6 with fail;go_region;all_goals go_wp2_with fail
      have cj:=((Fr.refl o).drewN 1).chg (fun k=>k=mb);have J:ak (fun k=>k=mb) o w9:=cj.trans a5 (fun _ _ h=>h);have h9:=J.heap h8 b0;have cm:=a2.chg J (fun k hk e=>(ny a2 a1) (by rw [hk,e]));go_end0;exact⟨rfl,_,n+1,⟨h9,ch.congr bm.out,cm,bv,bx⟩,by omega,bR.trans J (fun _ _ h=>.inr (.inl h)),bb⟩
  · have d7:(l.length:Int)<(a:Int)+3:=(by omega);have bm:Hid (∀ x y z,iH l a x y z=iH l (a+1) x y z):=fun x y z=>(by unfold iH;show _=if a+3<=l.length/\_ then _ else _;rw [ah (fun h=>O h.1)]);have av:Hid (gx l a++[(-1:Int)]=gx l (a+1)):=(by show _=_;rw [t7];unfold lE iZ;rw [ah O]);go_wp2_with fail;refine b6Qb (results_none rfl _ _ _) rfl ?_;exact⟨rfl,_,n,⟨h5,b3.congr bm.out,by rw [<- av.out];exact b2,bv,bx⟩,by omega,aj,bb⟩
def lF(o:Option Nat):Int:=match o with | some q=>(q:Int) | none=>-1
theorem E2(l:List UInt8)(p:Nat):lE l p=lF (iZ l p):=rfl
theorem Ii(l:List UInt8)(a d:Nat)(t:Nat × Nat)(m:a<=l.length)(h:gV (bI l a d) t)(e:257<=t.1):(bI l a d).1=257:=by
 by_cases o:3<=(bI l a d).1;· have:=h.1 o;have q:=(nX l a m d).1;rw [this]at e;omega
 · have:=h.2 (by omega);rw [this]at e;simp at e
theorem FH(v:Value)(l:List UInt8)(base g mb a n:Nat)(pv:Value)(w:World)(hs:af w eB v l)(hn:l.length<=1000000)(ha:a<l.length)(h:fI w base g mb l a n pv) :
  Calls Tryz.prog 150 #[.pointer (some ⟨g,0,none⟩),v,N a] w fun e w'=>∃ t:Nat × Nat,e=.returned (.tuple #[N t.1,N t.2])/\gV (ea l a) t/\t.1<=257/\t.2<=a/\Fr w w':=by
 have HS:=ad (fun W (o:Fr w W)=>hs.fr o);obtain⟨a0,d3,rfl,d4,cn,d5⟩:=hs.shape;unfold maxLen at cn;obtain⟨h0,hM,hP,d6,d7⟩:=h;obtain⟨pa,pc,b2⟩:=hP.shape';rw [lD]at b2;subst b2;have a1:=ad (fun W (o:Fr w W)=>(by rw [aL (o.heap h0)];rfl:W.cell? ⟨g,0,none⟩=some (.map (some mb))));have ct:=ad (fun W (o:Fr w W)=>(by rw [aL (o.heap h0)];rfl:W.cell? ⟨g,1,none⟩=some (.slice pa a pc)));have HL:=ad (fun W (o:Fr w W) x y z=>(hM.fr o).look (t:=213) qg Tryz.underlying5 qf Tryz.underlying213 Tryz.underlying3 (wj _) x y z);have cx:=ad (fun W (o:Fr w W) p (K:p<a)=>(hP.fr o).see.cell1 (fun n:Int=>Value.int .i64 n) rfl p (by rw [lD];exact K));have cy:=ad (fun W (o:Fr w W) f (cz:f<a)=>FT _ l f a W (HS.out W o) hn cz (by omega));clear hs hP hM h0;by_cases h3:a+3<=l.length
 · have c3:¬(l.length:Int)<(a:Int)+3:=(by omega);have a3:=ad (fun W (o:Fr w W)=>yY _ l a W (HS.out W o) hn h3);have c4:=ad (wI l a h3);have V:Fr w w.drew:=(Fr.refl w).drew;have b4:Hid (iH l a (l[a]'(by omega)) (l[a+1]'(by omega)) (l[a+2]'(by omega))=fS l (dV l a) a):=(by show _=_;unfold iH;rw [c4.out]);generalize l[a]=x at *;generalize l[a+1]=y at *;generalize l[a+2]=z at *;have e0:=a1.out w (Fr.refl w);have R:v3 x y z=.agg #[.int .u8 (x.toNat:Int),.int .u8 (y.toNat:Int),.int .u8 (z.toNat:Int)]:=rfl;go_enter Tryz.func150, Tryz.ntmps150;go_upto_region 3 with fail;go_cut [8,9]from 16 to 26 (fun sv ov wx=>Fr w wx/\Hid (match fS l (dV l a) a with | some p=>sv=N p/\ov=.bool true | none=>sv=N 0/\ov=.bool false))
   case first=>
    cases D:iH l a x y z with
    | none=>
     go_region_with (go_at_call 218;refine((a3.out _ V).mono ?_);rintro e I ⟨rfl,a5⟩;have L:=V.trans a5;have c0:=a1.out I L;have M:=HL.out I L x y z;rw [D]at M;unfold nC at M;rw [R]at M;rw [R]);all_goals go_wp2_with fail
     all_goals go_meet
     all_goals exact⟨L,by show match fS l (dV l a) a with | some p=>_ | none=>_;rw [<- b4.out,D];exact⟨rfl,rfl⟩⟩
    | some p=>
     go_region_with (go_at_call 218;refine((a3.out _ V).mono ?_);rintro e I ⟨rfl,a5⟩;have L:=V.trans a5;have c0:=a1.out I L;have M:=HL.out I L x y z;rw [D]at M;unfold nC at M;rw [R]at M;rw [R]);all_goals go_wp2_with fail
     all_goals go_meet
     all_goals exact⟨L,by show match fS l (dV l a) a with | some p=>_ | none=>_;rw [<- b4.out,D];exact⟨rfl,rfl⟩⟩
   case rest=>
    generalize c7:wc=wd at *;clear c7 a3 e0 R;obtain⟨a6,X⟩:=hcut
    cases D:fS l (dV l a) a with
    | none=>
     have T:=X.out;rw [D]at T;obtain⟨rfl,rfl⟩:=T;have G:gV (ea l a) (0,0):=rG l a 0 (0,0) (ap _) ⟨fun h=>absurd h (by simp [bI]),fun _=>rfl⟩ (.inr fun q F _=>yX l _ a D q (by omega) (by omega));clear X;go_wp2_with fail;go_loopw [6,7,8] (fun nv dv pv wr=>nv=N 0/\dv=N 0/\Fr w wr) (fun _ _ _ _=>0);case atStart=>exact⟨rfl,rfl,a6⟩
     case round=>obtain⟨rfl,rfl,o⟩:=hrel;go_wp2_with fail;go_ret2;exact⟨(0,0),rfl,G,by simp,by simp,o⟩
    | some p0=>
     have T:=X.out;rw [D]at T;obtain⟨rfl,rfl⟩:=T;clear X;have bA:Hid (lF (fS l (dV l a) (a - 0))=(p0:Int)):=(by show _=_;rw [Nat.sub_zero,D];rfl);go_wp2_with fail;go_loopw [6,7,8] (fun nv dv pv wr=>∃ (d:Nat) (t:Nat × Nat) (J:Int),pv=.int .i64 J/\nv=N t.1/\dv=N t.2/\d<=min 4095 a/\Hid (J=lF (fS l (dV l a) (a - d)))/\-1<=J/\J<a/\Hid (gV (bI l a d) t)/\t.1<=257/\t.2<=a/\Fr w wr) (fun _ _ pv _=>(intOf pv+1).toNat);case atStart=>exact⟨0,(0,0),p0,rfl,rfl,rfl,ap _,bA.out.symm,by omega,by have:=(oT _ _ _ _ D).1;omega,⟨fun h=>absurd h (by simp [bI]),fun _=>rfl⟩,by simp,by simp,a6⟩
     case round=>
      clear a6 D bA;obtain⟨d,t,J,rfl,rfl,rfl,hd,Y,d9,dT,O,bc,bd,o⟩:=hrel;obtain⟨m,A⟩:=t;simp only at bc bd;go_upto_region 4 with fail;go_cut [41]from 27 to 41 (fun cv wx=>∃ U,cv=.bool U/\Hid (U=true->∃ q:Nat,J=q/\fS l (dV l a) (a - d)=some q/\a<=4095+q/\m<257)/\Hid (U=false->gV (ea l a) (m,A))/\wr=wx)
      case first=>
       cases F:fS l (dV l a) (a - d)with
       | none=>have K:=Y.out;rw [F]at K;have bf:J=-1:=K;have G:gV (ea l a) (m,A):=rG l a d (m,A) hd O.out (.inr fun q c9 _=>yX l _ _ F q c9 (by omega));subst bf;go_wp2_with fail;go_meet;exact⟨false,rfl,(fun h=>by cases h),fun _=>G,rfl⟩
       | some q=>
        have K:=Y.out;rw [F]at K;have bf:J=(q:Int):=K;have bk:=oT _ _ _ _ F;have n1:¬(q:Int)=-1:=(by omega);have n2:((q:Int) == -1)=false:=(by simp);have n3:((q:Int) != -1)=true:=(by rw [bne,n2];rfl);subst bf;by_cases I:a<=4095+q
        · have cF:(a:Int) - q<=4095:=(by omega);by_cases w2:m<257;· have cG:(m:Int)<257:=(by omega);go_wp2_with fail;go_meet;exact⟨true,rfl,fun _=>⟨q,rfl,F,I,w2⟩,(fun h=>by cases h),rfl⟩
          · have cG:¬(m:Int)<257:=(by omega);have G:gV (ea l a) (m,A):=rG l a d (m,A) hd O.out (.inl (Ii l a d (m,A) (by omega) O.out (by show 257<=m;omega)));go_wp2_with fail;go_meet;exact⟨false,rfl,(fun h=>by cases h),fun _=>G,rfl⟩
        · have cF:¬(a:Int) - q<=4095:=(by omega);have G:gV (ea l a) (m,A):=rG l a d (m,A) hd O.out (.inr fun r da ek=>bk.2.2.2 r (by omega) da (by omega));go_wp2_with fail;go_meet;exact⟨false,rfl,(fun h=>by cases h),fun _=>G,rfl⟩
      case rest=>
       obtain⟨U,rfl,HT,HF,rfl⟩:=hcut
       cases U with
       | false=>have G:=HF.out rfl;clear HT HF Y O;go_wp2_with fail;go_ret2;exact⟨(m,A),rfl,G,bc,bd,o⟩
       | true=>
        obtain⟨q,rfl,F,I,w2⟩:=HT.out rfl;have hg:=Ih l a d q (m,A) h3 (by omega) F O.out;have bk:=oT _ _ _ _ F;have bt:q<a:=(by omega);obtain⟨bu,er,bR⟩:=hg;have dd:=ad (cy.out wr o q bt);have ca:jR l a (m,A) (a - q)=if m<fx l q a then(fx l q a,a - q)else(m,A):=(by unfold jR;rw [show a - (a - q)=q by omega]);rw [ca]at bu;have Z:=ad bu;have di:=uT l 257 q a;rw [show dC l q a 257=fx l q a from rfl]at di;have cb:=ad bR;have dj:(a:Int) - q=((a - q:Nat):Int):=(by omega);clear HT HF Y O ca bu bR F bk dj;generalize hk:fx l q a=k at *;clear hk;go_wp2_with fail;refine dd.out.mono ?_;rintro e w5 ⟨rfl,m5,cc⟩;have aa:Fr w w5:=(by rw [cc];exact o.drewN m5);clear cc;have c1:=ct.out w5 aa;obtain⟨pb,e1,e2,cf,cp⟩:=cx.out w5 aa q bt;rw [lD]at cf;cases cf;rw [E1 l a q bt,E2]at cp;have i1:(0:Int)<=q:=(by omega);have i2:(q:Int)<a:=(by omega);have ds:-1<=lF (iZ l q)/\lF (iZ l q)<q:=by
         cases ab:iZ l q with
         | none=>exact⟨Int.le_refl _,by show(-1:Int)<_;omega⟩
         | some r=>
          unfold iZ at ab;split at ab;· have:=(oT _ _ _ _ ab).1;exact⟨by show(-1:Int)<=(r:Int);omega,by show(r:Int)<_;omega⟩
          · cases ab
        have ch:Hid (lF (iZ l q)=lF (fS l (dV l a) (a - (a - q)))):=(by show _=_;rw [cb.out]);clear cb;generalize lF (iZ l q)=np at *;obtain⟨cl,e5⟩:=ds;by_cases cm:m<k
        · have d0:(m:Int)<k:=(by omega);have Q:=Z.out;rw [ai cm]at Q;have HG:=ad Q;clear Q Z;go_wp2_with fail;go_roundw;case rel=>exact⟨a - q,(k,a - q),np,rfl,rfl,by go_num,by omega,ch,cl,by omega,HG,by show k<=257;omega,by show a - q<=a;omega,aa⟩
          case measure=>simp [intOf];omega
        · have d0:¬(m:Int)<k:=(by omega);have Q:=Z.out;rw [ah cm]at Q;have HG:=ad Q;clear Q Z;go_wp2_with fail;go_roundw;case rel=>exact⟨a - q,(m,A),np,rfl,rfl,rfl,by omega,ch,cl,by omega,HG,bc,bd,aa⟩
          case measure=>simp [intOf];omega
 · have c3:(l.length:Int)<(a:Int)+3:=(by omega);go_enter Tryz.func150, Tryz.ntmps150;go_wp2_with fail;go_ret2;exact⟨(0,0),rfl,⟨fun h=>absurd h (by have:=IF l a (by omega) (by omega);omega),fun _=>rfl⟩,by simp,by simp,Fr.refl w⟩
section
variable {w0 w W:World} {base g mb a n B:Nat} {l:List UInt8} {pv:Value}
theorem uA(h:fI w base g mb l a n pv)(m:Below B w0 w)(o:B<=w.heap.size)(d:B<=base)(q:ak (fun k=>k=g\/k=mb\/pv.ownBlock=some k) w W):Below B w0 W:=
 ak.below m q o fun i e=>by
  rcases e with rfl | rfl | e
  · exact aq d h.up
  · exact aq d h.up2
  · exact aq d (h.prev.lt i e).1
theorem Ag{α:Type}{E:al Tryz.prog α}{y:Nat}{v:Value}{m:List α}(h:fI w base g mb l a n pv)(o:Ow w y E v m)(z:215≠E.e/\(eZ:al Tryz.prog Int).e≠E.e)(A:ak (fun k=>k=g\/k=mb\/pv.ownBlock=some k) w W):Ow W y E v m:=
 o.chg A fun k d e=>by
  rcases e with rfl | rfl | e
  · exact o.ne_cells h.at0 z.1 d
  · exact ny o h.map d
  · rcases iB o h.prev z.2 with q | q
    · rw [q]at d;cases d
    · exact q (d.trans e.symm)
theorem fI.fr(h:fI w base g mb l a n pv)(d:Fr w W):fI W base g mb l a n pv:=⟨d.heap h.at0,h.map.fr d,h.prev.fr d,h.up,h.up2⟩
theorem fI.chg{G:Nat->Prop}(h:fI w base g mb l a n pv)(d:ak G w W)(e:¬G g)(m:¬G mb)(o:∀ k,pv.ownBlock=some k->¬G k):fI W base g mb l a n pv:=⟨d.heap h.at0 e,h.map.chg d m,h.prev.chg d o,h.up,h.up2⟩
theorem fI.app{α:Type}{E:al Tryz.prog α}{y:Nat}{v v':Value}{m A:List α}(h:fI w base g mb l a n pv)(d:Ow w y E v m)(z:215≠E.e/\E.e≠(eZ:al Tryz.prog Int).e)(D:cQ y E A w v v' W):fI W base g mb l a n pv:=
 h.chg D.chg' (fun e=>d.ne_cells h.at0 z.1 e) (fun e=>ny d h.map e) fun k o e=>by
  rcases iB h.prev d z.2 with q | q
  · rw [q]at o;cases o
  · exact q (o.trans e.symm)
end
theorem KY (v : Value) (l : List UInt8) (w : World) (hs : af w eB v l) (hn : l.length ≤ 1000000) :
    Calls Tryz.prog 101 #[v] w fun e w'=>∃ v',e=.returned v'/\Ow w' w.heap.size gl v' (dN l)/\Fr w w':=by
  have HS:=ad (fun W (h:Fr w W)=>hs.fr h);obtain⟨a0,d7,rfl,d8,c5,d9⟩:=hs.shape;unfold maxLen at c5;have HB:=ad (fun W (h:Fr w W) k G=>gE (HS.out W h) k G);have c7:=ad (fun W (o:Fr w W) g mb a n pv (U:a<l.length) (A:fI W w.heap.size g mb l a n pv)=>FH _ l w.heap.size g mb a n pv W (HS.out W o) hn U A);have HAdd:=ad (fun W a n pv (o:Fr w W) (U:a<l.length) (A:fI W w.heap.size (w.heap.size+1) w.heap.size l a n pv) (a3:n<=a)=>IY _ l w.heap.size (w.heap.size+1) w.heap.size a n pv W (HS.out W o) hn U A a3 (fun W' c9=>HS.out W' (uA A o (by have:=o.size;omega) (ag _) c9)));have cF:=@run_makeMap Tryz.prog;have cj:Fr w (w.alloc (.map #[] 0)):=(Fr.refl w).alloc _;have cl:=ew.made w Tryz.prog 296 3;clear hs;go_enter Tryz.func101, Tryz.ntmps101;go_wp2_with fail;have cm:((w.alloc (.map #[] 0)).alloc (.cells #[.map (some w.heap.size),.slice none 0 0] 215)).heap[w.heap.size+1]? = some (.cells #[.map (some w.heap.size),.slice none 0 0] 215 (0,0)):=(by exact au (w.alloc (.map #[] 0)) _ (w.heap.size+1) (by rw [dp]));have bm:Fr (w.alloc (.map #[] 0)) ((w.alloc (.map #[] 0)).alloc (.cells #[.map (some w.heap.size),.slice none 0 0] 215)):=(Fr.refl _).alloc _
  have cn:fI ((w.alloc (.map #[] 0)).alloc (.cells #[.map (some w.heap.size),.slice none 0 0] 215)) w.heap.size (w.heap.size+1) w.heap.size l 0 0 (.slice none 0 0):=
    ⟨cm,cl.fr bm,Ow.nil,by omega,ag _⟩
  have co:=cj.trans bm;generalize (w.alloc (.map #[] 0)).alloc (.cells #[.map (some w.heap.size),.slice none 0 0] 215)=W0 at *;clear cj bm cm cl cF;go_loopw [4,5] (fun ov O wr=>∃ (a n:Nat) (pv:Value) (m:List bF),a<=l.length/\O=N a/\Ow wr w.heap.size gl ov m/\m.length<=a/\Hid (dN l=m++fu l a)/\fI wr w.heap.size (w.heap.size+1) w.heap.size l a n pv/\n<=a/\Fr w wr) (fun _ O _=>l.length - (intOf O).toNat);case atStart=>exact⟨0,0,_,[],ap _,rfl,Ow.nil,ap _,rfl,cn,ag _,co⟩
  case round=>
    clear cn co;obtain⟨a,n,pv,m,U,rfl,z,ec,V,q,a3,o⟩:=hrel;obtain⟨va,vc,dd⟩:=z.shape';subst dd;by_cases a4:a<l.length
    · have ef:(a:Int)<l.length:=(by omega);obtain⟨b,di,ek,hv,cA⟩:=HB.out wr o a a4;cases hv;have HM:=ad (rl l a a4);have HL:=ad (rm l a a4);have cp:=nX l a U (min 4095 a);rw [show bI l a (min 4095 a)=ea l a from rfl]at cp;generalize hx:l[a]=x at *;replace cA:wr.cell? ⟨b,di+a,none⟩=some (.int .u8 ((x.toNat:Nat):Int)):=cA;have a5:Fr wr (wr.alloc (.cells #[.int .u8 (x.toNat:Int),.int .i64 0,.int .i64 0] 208)):=(Fr.refl wr).alloc _;have cs:(wr.alloc (.cells #[.int .u8 (x.toNat:Int),.int .i64 0,.int .i64 0] 208)).heap[wr.heap.size]? = some (.cells #[.int .u8 (x.toNat:Int),.int .i64 0,.int .i64 0] 208 (0,0)):=au _ _ _ rfl;have es:w.heap.size+1<wr.heap.size:=(aR.1 q.at0).1;have dk:∀ k,pv.ownBlock=some k->k<wr.heap.size:=fun k G=>(q.prev.lt k G).2;have dl:∀ k,(Value.slice va m.length vc).ownBlock=some k->k<wr.heap.size:=fun k G=>(z.lt k G).2;have bv:=q.fr a5;have ct:=z.fr a5;have bx:=o.trans a5;have cv:=ad (c7.out _ bx _ _ a n pv a4 bv);go_upto_region 5 with fail;go_wp2_with fail;generalize wr.alloc (.cells #[.int .u8 (x.toNat:Int),.int .i64 0,.int .i64 0] 208)=WA at *;refine cv.out.mono ?_;rintro e X ⟨⟨d,D⟩,rfl,a6,dr,ds,a7⟩;simp only at dr ds;have ba:=bv.fr a7;have bb:=ct.fr a7;have Y:=bx.trans a7;have M:=a7.heap cs;clear q z o a5 cs bv ct bx cv cA;generalize dv:ea l a=bk at *;clear dv;generalize wr.heap.size=y at *;have j0:=ae M 0 rfl;have j1:=ae M 1 rfl;have j2:=ae M 2 rfl;have f0:=az M 0;have f1:=az M 1;have f2:=az M 2;by_cases h3:3<=bk.1
      · have Q:=a6.1 h3;have Z:bk.1=d:=(by rw [<- Q]);have bc:bk.2=D:=(by rw [<- Q]);rw [Z]at h3 cp;have e0:(3:Int)<=d:=(by omega);have aa:Hid (dN l=(m++[⟨0,d,D⟩])++fu l (a+d)):=by show _=_;rw [V.out,HM.out (by omega),Z,bc];simp
        have bd:ak (fun k=>k=y) X (((X.setCell ⟨y,0,none⟩ (.int .u8 0)).setCell ⟨y,1,none⟩ (N d)).setCell ⟨y,2,none⟩ (N D)):=
          ((aw X ⟨y,0,none⟩ _).trans (aw _ ⟨y,1,none⟩ _) (fun _ _ h=>h)).trans (aw _ ⟨y,2,none⟩ _) (fun _ _ h=>h)
        have ab:=ba.chg bd (by omega) (by omega) (fun k G e=>by have:=dk k G;omega);have I:=bb.chg bd (fun k G e=>by have:=dl k G;omega);have J:Fr w _:=ak.below Y bd Y.size (fun i e=>by omega);have d0:Hid (gl.enc (⟨0,d,D⟩:bF)=[.int .u8 0,N d,N D]):=rfl;clear ba bb Y HM HL V a6 Q Z bc;go_upto_region 11 with fail
        have b1:(((X.setCell ⟨y,0,none⟩ (.int .u8 0)).setCell ⟨y,1,none⟩ (N d)).setCell ⟨y,2,none⟩ (N D)).heap[y]? = some (.cells #[.int .u8 0,N d,N D] 208 (0,0)):=
          aB (aB (aB M 0 _) 1 _) 2 _
        clear bd j0 j1 j2 f0 f1 f2 M d0;generalize ((X.setCell ⟨y,0,none⟩ (.int .u8 0)).setCell ⟨y,1,none⟩ (N d)).setCell ⟨y,2,none⟩ (N D)=W5 at *;have j0:=ae b1 0 rfl;have j1:=ae b1 1 rfl;have j2:=ae b1 2 rfl;go_wp2_with (at_builtin;refine aM gl rfl (.tmp 35) (.tmp 37) 144 rfl Tryz.underlying144 w.heap.size rfl I [⟨0,d,D⟩] _ _ _ rfl rfl rfl (by simp;omega) J.size ?_);intro v' w6 K;have b2:=ab.app I (by decide) K;have b3:=K.own;have b4:=K.below I J (ag _) J.size;clear K ab I J;go_wp2_with fail;go_loopw [5,40] (fun O R T=>∃ (j F:Nat) (L:Value),j<=d/\R=N j/\O=N (a+j)/\fI T w.heap.size (w.heap.size+1) w.heap.size l (a+j) F L/\F<=a+j/\Ow T w.heap.size gl v' (m++[⟨0,d,D⟩])/\Fr w T) (fun _ R _=>d - (intOf R).toNat);case atStart=>exact⟨0,n,pv,ap _,rfl,rfl,b2,a3,b3,b4⟩
        case round=>
          obtain⟨j,F,L,hj,rfl,rfl,q,ac,z,o⟩:=hrel;by_cases d3:j<d
          · have d4:(j:Int)<d:=(by omega);have b5:=ad (HAdd.out wr (a+j) F L o (by omega) q ac);have b8:=ad (fun W A=>uA (W:=W) q o (by have:=o.size;omega) (ag _) A);have bA:=ad (fun W A=>Ag (W:=W) q z (by decide) A);clear q z;go_wp2_with fail;refine b5.out.mono ?_;rintro e w5 ⟨rfl,bB,n5,ca,cb,a1,_⟩;have cc:=b8.out w5 a1;have cf:=bA.out w5 a1;go_wp2_with fail;go_roundw;case rel=>exact⟨j+1,n5,bB,by omega,by go_num,by go_num,ca,cb,cf,cc⟩
            case measure=>simp [intOf];omega
          · obtain rfl:d=j:=(by omega);have d5:¬(d:Int)<d:=(by omega);go_wp2_with fail;go_roundw;case rel=>exact⟨a+d,F,L,(m++[⟨0,d,D⟩]),by omega,by go_num,z,by simp;omega,aa,q,ac,o⟩
            case measure=>simp [intOf];omega
      · have Q:=a6.2 (by omega);have Z:d=0:=(by have:=fX Prod.fst Q;exact this);have bc:D=0:=(by have:=fX Prod.snd Q;exact this);subst Z;subst bc;have aa:Hid (dN l=(m++[⟨x,0,0⟩])++fu l (a+1)):=(by show _=_;rw [V.out,HL.out h3];simp);have ab:=ba;have I:=bb;have J:=Y;clear ba bb Y HM HL V a6 Q f0 f1 f2;obtain⟨st,e2⟩:∃ st,st=1:=⟨1,rfl⟩;go_upto_region 11 with fail;go_wp2_with (at_builtin;refine aM gl rfl (.tmp 35) (.tmp 37) 144 rfl Tryz.underlying144 w.heap.size rfl I [⟨x,0,0⟩] _ _ _ rfl rfl rfl (by simp;omega) J.size ?_);intro v' w6 K;have b2:=ab.app I (by decide) K;have b3:=K.own;have b4:=K.below I J (ag _) J.size;clear K ab I J;go_wp2_with fail;go_loopw [5,40] (fun O R T=>∃ (j F:Nat) (L:Value),j<=1/\R=N j/\O=N (a+j)/\fI T w.heap.size (w.heap.size+1) w.heap.size l (a+j) F L/\F<=a+j/\Ow T w.heap.size gl v' (m++[⟨x,0,0⟩])/\Fr w T) (fun _ R _=>1 - (intOf R).toNat);case atStart=>exact⟨0,n,pv,ap _,rfl,rfl,b2,a3,b3,b4⟩
        case round=>
          obtain⟨j,F,L,hj,rfl,rfl,q,ac,z,o⟩:=hrel;by_cases d3:j<1
          · have d4:(j:Int)<1:=(by omega);have b5:=ad (HAdd.out wr (a+j) F L o (by omega) q ac);have b8:=ad (fun W A=>uA (W:=W) q o (by have:=o.size;omega) (ag _) A);have bA:=ad (fun W A=>Ag (W:=W) q z (by decide) A);clear q z;go_wp2_with fail;refine b5.out.mono ?_;rintro e w5 ⟨rfl,bB,n5,ca,cb,a1,_⟩;have cc:=b8.out w5 a1;have cf:=bA.out w5 a1;go_wp2_with fail;go_roundw;case rel=>exact⟨j+1,n5,bB,by omega,by go_num,by go_num,ca,cb,cf,cc⟩
            case measure=>simp [intOf];omega
          · obtain rfl:1=j:=(by omega);have d5:¬(1:Int)<1:=(by omega);go_wp2_with fail;go_roundw;case rel=>exact⟨a+1,F,L,(m++[⟨x,0,0⟩]),by omega,by go_num,z,by simp;omega,aa,q,ac,o⟩
            case measure=>simp [intOf];omega
    · obtain rfl:a=l.length:=(by omega);have e3:¬(l.length:Int)<l.length:=(by omega);have aa:Hid (m=dN l):=(by show _=_;rw [V.out,rn l _ (ag _),dmQb]);go_wp2_with fail;go_ret;exact⟨_,rfl,by rw [<- aa.out];exact z,o⟩
end Go.Proofs.YtdamnfpigajmoaaGreatDoor
