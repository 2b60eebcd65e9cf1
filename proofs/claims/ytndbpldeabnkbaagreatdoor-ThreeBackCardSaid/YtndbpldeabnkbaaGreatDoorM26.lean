/- Lemmas for ThreeTurned. -/
import Derived.Test.YtndbpldeabnkbaaGreatDoorM23
import Derived.Test.YtndbpldeabnkbaaGreatDoorM25
set_option linter.all false
set_option maxHeartbeats 8000000
set_option maxRecDepth 100000
namespace Go.Fk
abbrev wkQb:=@Nat.sub_zero
end Go.Fk
namespace Go.Proofs.YtndbpldeabnkbaaGreatDoor
open Go.RowKit Go.Fk
def wL:Go.WideMaps.ArrKey Tryz.prog 301 5 3:=⟨Tryz.underlying301,by kernel_rfl,by kernel_rfl,by kernel_rfl⟩
def wK:∃m,(Tryz.prog).types.size=m+1:=⟨(Tryz.prog).types.size-1,by kernel_rfl⟩
def C9(w:World):(zeroValue 3).run Tryz.prog w=.ok (.int .i64 0) w:=by kernel_rfl
def NQ{P:Program}{o:Func}{p:Tmp}{e:TypeId}(h:o.results=#[.cell p e])(tmps:Array Value)(w:World)(g:Nat)(t:TypeId)(m:Array Value)(z:Nat × Nat)(d:TypeDesc)
  (hp:tmps.getD p undef=.pointer (some ⟨g,0,none⟩)) (hg:w.heap[g]?=some (.cells m t z))
  (hu:P.underlying e=some d) (hd:(match d with | .struct _ | .array _ _=>true | _=>false)=true) (hi:(P.info? e).map (·.size)=some m.size) :
  (results o tmps).run P w=.ok (.agg m) w:=by
 have A:tmps[p]?.getD undef=.pointer (some ⟨g,0,none⟩):=by simpa using hp
 simp[results,h,A,asAddr,vY w g t e m z d hg hu hd hi]
def Dg(l:Z0)(a:Nat)(h:a+3<=l.length):gr l a=[l[a]'ω,l[a+1]'ω,l[a+2]'ω]:=by
 unfold gr;rw[gE ω,gD,gE ω,gD,gE ω,gD,lj]
def Gq(v:Value)(l:Z0)(a:Nat)(w:World)(m:ah w eB v l)(R:l.length<=1000000)(U:a+3<=l.length):Calls Tryz.prog 196 #[v,N a] w λe w'=>e=.returned (v3 (l[a]'ω) (l[a+1]'ω) (l[a+2]'ω))/\Fr w w':=by
 obtain⟨b,V,X,G,D⟩:=qi m a ω;have Y:=m.shape;subst G;obtain⟨Z,aa,ab,I,F⟩:=qi m (a+1) ω;cases I;obtain⟨b2,aj,ak,J,c2⟩:=qi m (a+2) ω;cases J;have o:Fr w (w.alloc (.cells #[.int .u8 0,.int .u8 0,.int .u8 0] 301)):=(Fr.refl w).alloc _;have d:(w.alloc (.cells #[.int .u8 0,.int .u8 0,.int .u8 0] 301)).heap[w.heap.size]?=some (.cells #[.int .u8 0,.int .u8 0,.int .u8 0] 301 (0,0)):=aB _ _ _ rfl;have K:(a:Int)+1=((a+1:Nat):Int):=ω
 have i1:(a:Int)<l.length:=ω
 have i2:(a:Int)+1<l.length:=ω
 have i3:(a:Int)+2<l.length:=ω
 clear m K;generalize l[a]=x at *;generalize l[a+1]=y at *;generalize l[a+2]=z at *;replace D:=o.cell D;replace F:=o.cell F;replace c2:=o.cell c2;have e0:(w.alloc (.cells #[.int .u8 0,.int .u8 0,.int .u8 0] 301)).cell? ⟨w.heap.size,0,none⟩=some (.int .u8 0):=by rw[aK d];rfl
 have e1:(w.alloc (.cells #[.int .u8 0,.int .u8 0,.int .u8 0] 301)).cell? ⟨w.heap.size,1,none⟩=some (.int .u8 0):=by rw[aK d];rfl
 have e2:(w.alloc (.cells #[.int .u8 0,.int .u8 0,.int .u8 0] 301)).cell? ⟨w.heap.size,2,none⟩=some (.int .u8 0):=by rw[aK d];rfl
 have f0:=a8 d 0;have f1:=a8 d 1;have f2:=a8 d 2;go_in;go_upto_region 1 with fail;generalize hW:w.alloc (.cells #[.int .u8 0,.int .u8 0,.int .u8 0] 301)=W at *;go_region;all_goals go_wp2_with fail
 have L:(((W.setCell ⟨w.heap.size,0,none⟩ (.int .u8 (x.toNat:Int))).setCell ⟨w.heap.size,1,none⟩ (.int .u8 (y.toNat:Int))).setCell ⟨w.heap.size,2,none⟩ (.int .u8 (z.toNat:Int))).drew.heap[w.heap.size]?=some (.cells #[.int .u8 (x.toNat:Int),.int .u8 (y.toNat:Int),.int .u8 (z.toNat:Int)] 301 (0,0)):=
  aJ (aJ (aJ d 0 _) 1 _) 2 _
 have M:ai (λk=>k=w.heap.size) W (((W.setCell ⟨w.heap.size,0,none⟩ (.int .u8 (x.toNat:Int))).setCell ⟨w.heap.size,1,none⟩ (.int .u8 (y.toNat:Int))).setCell ⟨w.heap.size,2,none⟩ (.int .u8 (z.toNat:Int))):=
  ((a9 W ⟨w.heap.size,0,none⟩ _).trans (a9 _ ⟨w.heap.size,1,none⟩ _) (λ_ _ h=>h)).trans (a9 _ ⟨w.heap.size,2,none⟩ _) (λ_ _ h=>h)
 have O:Fr w _:=(ai.below o M o.size (λk Q=>iT Q.symm)).drew;exact bFQb (v:=v3 x y z) (NQ Tryz.results196 _ _ w.heap.size 301 _ (0,0) _ rfl L Tryz.underlying301 rfl (by kernel_rfl)) rfl ⟨rfl,O⟩
def eZ:aw Tryz.prog Int:=⟨3,1,8,0,.int .i64 0,λn=>[.int .i64 n],by kernel_rfl,δ,δ,by simp[Value.cells],λ_=>rfl,by intro x u d;simp at d;subst d;rfl⟩
def qN(l:Z0)(p:Nat):Int:=match m8 l p with | some q=>(q:Int) | none=>-1
def ko(l:Z0)(a:Nat):List Int:=(List.range a).map (qN l)
def qM(l:Z0)(a:Nat):(ko l a).length=a:=by simp[ko]
def A7(l:Z0)(a:Nat):ko l (a+1)=ko l a++[qN l a]:=by simp[ko,jr]
def O6(l:Z0)(a p:Nat)(h:p<a):(ko l a)[p]'(by rw[qM];exact h)=qN l p:=by simp[ko]
def O5(l:Z0)(a:Nat)(x:Int)(h:x=qN l a):(ko l a++[-1]).set a x=ko l (a+1):=by
 rw[A7,h,List.set_append];simp[qM]
def lR(l:Z0)(a:Nat)(x y z:UInt8):Option Nat:=jy l [x,y,z] a
structure jo (w:World) (base g mb:Nat) (l:Z0) (a n:Nat) (pv:Value):Prop where
 at0:w.heap[g]?=some (.cells #[.map (some mb),pv] 245 (0,0))
 map:ik w Tryz.prog 301 3 mb n (lR l a)
 prev:Ow w base eZ pv (ko l a)
 up:base<=g
 up2:base<=mb
def tr{α:Type}{E:aw Tryz.prog α}{w:World}{base mb n:Nat}{k e:TypeId}{f:UInt8->UInt8->UInt8->Option Nat}{v:Value}{m:List α}(h:Ow w base E v m)(A:ik w Tryz.prog k e mb n f):v.ownBlock≠some mb:=by
 intro d;obtain⟨D,⟨G,I,F,_⟩,_⟩:=A;rcases h.2 with⟨o,_⟩ | ⟨g,J,K,o,_,z,_⟩;·rw[o]at d;cases d
 ·rw[o]at d;have:g=mb:=(by simpa [Value.ownBlock] using d);rw[this,F]at z;cases z
def VT(v:Value)(l:Z0)(base g mb a n:Nat)(pv:Value)(w:World)(hs:ah w eB v l)(hn:l.length<=1000000)(ha:a<l.length)(h:jo w base g mb l a n pv)(ev:n<=a)(cF:∀W,ai (λk=>k=g\/k=mb\/pv.ownBlock=some k) w W->ah W eB v l):Calls Tryz.prog 155 #[.pointer (some ⟨g,0,none⟩),v,N a] w λe w'=>e=.returned (.tuple #[])/\∃ch n',jo w' base g mb l (a+1) n' ch/\n'<=a+1/\ai (λk=>k=g\/k=mb\/pv.ownBlock=some k) w w'/\(∀b,ch.ownBlock=some b->pv.ownBlock=some b\/w.heap.size<=b):=by
 obtain⟨a0,e3,rfl,e4,cG,e5⟩:=hs.shape;unfold maxLen at cG;obtain⟨L,hM,hP,bn,bs⟩:=h;obtain⟨pa,pc,ac⟩:=hP.shape';rw[qM]at ac;subst ac;have e0:=ag L 0 rfl;have e1:=ag L 1 rfl;have cT:=hP.ne_cells L δ;have da:=tr hP hM;have bv:g≠mb:=by intro e;obtain⟨D,⟨es,e7,hb,_⟩,_⟩:=hM;rw[<- e,L]at hb;cases hb
 have cl:base<=w.heap.size:=by have:=(aR.1 L).1;omega
 clear hs;go_in;go_wp2_with (at_builtin;refine cW eZ rfl (.tmp 13) (.tmp 14) 56 rfl Tryz.underlying56 base rfl hP [-1] _ _ _ rfl rfl rfl (by rw[qM];simp;omega) cl ?_);intro v' w4 M;have O:=M.chg'.heap L (λe=>cT e);have a7:=M.own;have aC:=M.fresh;have cm:ai (λk=>k=g\/k=mb\/(Value.slice pa a pc).ownBlock=some k) w w4:=M.chg'.mono (λk _ h=>.inr (.inr h));have cn:=hM.chg M.chg' (λe=>da e);obtain⟨qa,qc,cp⟩:=a7.shape';have bc:(ko l a++[(-1:Int)]).length=a+1:=by rw[am,qM];rfl
 rw[bc]at cp;subst cp;have c0:=ag O 0 rfl;have c1:=ag O 1 rfl;have d1:w4.frozen? ⟨g,1,none⟩=false:=a8 O 1;clear hP hM M e0 e1;go_upto_region 1 with fail;have h5:(w4.setCell ⟨g,1,none⟩ (.slice qa (a+1) qc)).heap[g]?=some (.cells #[.map (some mb),.slice qa (a+1) qc] 245 (0,0)):=aJ O 1 _;have bd:ai (λk=>k=g) w4 (w4.setCell ⟨g,1,none⟩ (.slice qa (a+1) qc)):=a9 w4 ⟨g,1,none⟩ _;have b0:=a7.chg bd (λk hk e=>(a7.ne_cells O δ) (by rw[hk,e]));have b1:=cn.chg bd (λe=>bv e.symm);have ak:=cm.trans bd (λ_ _ h=>.inl h);generalize w4.setCell ⟨g,1,none⟩ (.slice qa (a+1) qc)=W5 at *;have cq:=cF W5 ak;have ds:base<=W5.heap.size:=ay cl ak.size;clear a7 cn cm bd O c0 c1 d1;by_cases Q:a+3<=l.length
 ·have dv:¬(l.length:Int)<(a:Int)+3:=ω;have cs:=ad (Gq _ l a W5 cq hn Q);have ct:=ad (Dg l a Q);generalize l[a]=x at *;generalize l[a+1]=y at *;generalize l[a+2]=z at *;have cu:Hid (m8 l a=lR l a x y z):=(by show _=_;unfold m8 lR;rw[af Q,ct.out]);have bf:Hid (∀R U V,(if R=x/\U=y/\V=z then some a else lR l a R U V)=lR l (a+1) R U V):=λR U V=>by
   unfold lR;show _=if a+3<=l.length/\gr l a=[R,U,V]then some a else _;rw[ct.out];by_cases hx:R=x/\U=y/\V=z;·obtain⟨rfl,rfl,rfl⟩:=hx;rw[af ⟨rfl,rfl,rfl⟩,af ⟨Q,rfl⟩]
   ·rw[ae hx,ae (λh=>hx (by have:=h.2;simp only[q7,mr]at this;exact⟨this.1.symm,this.2.1.symm,this.2.2.symm⟩))]
  go_wp2_with fail;refine cs.out.mono ?_;rintro e F ⟨rfl,X⟩;have h6:=X.heap h5;have cv:=b0.fr X;have b5:=b1.fr X;have c3:=ak.trans (X.chg (λk=>k=g)) (λ_ _ h=>.inl h);have c4:=ay ds X.size;clear h5 b0 b1 ak cq cs;unfold v3;go_upto_region 2 with fail;have Y:Fr F (F.alloc (.cells #[.int .u8 (x.toNat:Int),.int .u8 (y.toNat:Int),.int .u8 (z.toNat:Int)] 301)):=(Fr.refl F).alloc _;have G:(F.alloc (.cells #[.int .u8 (x.toNat:Int),.int .u8 (y.toNat:Int),.int .u8 (z.toNat:Int)] 301)).heap[F.heap.size]?=some (.cells #[.int .u8 (x.toNat:Int),.int .u8 (y.toNat:Int),.int .u8 (z.toNat:Int)] 301 (0,0)):=aB _ _ _ rfl;have I:=Y.heap h6;have A:=cv.fr Y;have Z:=b5.fr Y;have bk:=c3.trans (Y.chg (λk=>k=g)) (λ_ _ h=>.inl h);have e8:=ay c4 Y.size;have e9:F.heap.size≠g:=(by have:=(aR.1 h6).1;omega);have eL:F.heap.size≠mb:=(by have:=b5.lt;omega);generalize F.alloc (.cells #[.int .u8 (x.toNat:Int),.int .u8 (y.toNat:Int),.int .u8 (z.toNat:Int)] 301)=d at *;clear Y X h6 cv b5 c3 c4;generalize F.heap.size=kb at *;have HL:=ad (λ(k:Nat)=>(Z.fr ((Fr.refl d).drewN k)).look (t:=243) wL Tryz.underlying5 wK Tryz.underlying243 Tryz.underlying3 (C9 _) x y z);have bl:=HL.out 1;have g0:=ag I 0 rfl;have g1:=ag I 1 rfl;have q0:=ag G 0 rfl;have q1:=ag G 1 rfl;have q2:=ag G 2 rfl;unfold v3 at bl;rw[show d.drewN 1=d.drew from rfl]at bl;have d2:=A.atHead σ;obtain⟨m,fa,ac,fb,fc,fe,fh⟩:=d2;rw[bc]at ac;cases ac;have d3:m≠g:=λe=>A.ne_cells I δ (by rw[<- e];rfl);have d4:m≠kb:=λe=>A.ne_cells G δ (by rw[<- e];rfl);have d5:m≠mb:=λe=>tr A Z (by rw[<- e];rfl);have fk:ai (λk=>k=m) d d->True:=λ_=>trivial;generalize aa:tB (lR l a x y z)=lv at *
  cases bm:lR l a x y z with
  | none=>
   rw[bm]at aa;unfold tB at aa;subst aa;have ap:Hid (ko l a++[(-1:Int)]=ko l (a+1)):=(by show _=_;rw[A7];unfold qN;rw[cu.out,bm]);rw[ap.out]at A;go_region;all_goals go_wp2_with fail
   have ab:Fr d d.drew:=(Fr.refl d).drew;have av:=Z.fr ab;have a1:=A.fr ab;have h8:=ab.heap I;have J:=ab.heap G;have b7:=bk.trans (ab.chg (λk=>k=g)) (λ_ _ h=>.inl h);clear Z A I G bk g0 g1 q0 q1 q2 bl HL ab;generalize d.drew=o at *;have b8:=av.fr ((Fr.refl o).drewN 1);obtain⟨w9,a3,bA,a4⟩:=b8.upd (t:=243) (p:=a) wL Tryz.underlying5 wK Tryz.underlying243 Tryz.underlying3 (by unfold maxLen;omega) ω x y z;unfold v3 at a3;rw[show o.drewN 1=o.drew from rfl]at a3 a4;have e0:=ag h8 0 rfl;have r0:=ag J 0 rfl;have r1:=ag J 1 rfl;have r2:=ag J 2 rfl;go_upto_region 6 with fail;go_region;all_goals go_wp2_with fail
   have bB:=((Fr.refl o).drewN 1).chg (λk=>k=mb);have K:ai (λk=>k=mb) o w9:=bB.trans a4 (λ_ _ h=>h);have h9:=K.heap h8 bv;have bR:=a1.chg K (λk hk e=>(tr a1 av) (by rw[hk,e]));go_end0;exact⟨rfl,_,n+1,⟨h9,bA.congr bf.out,bR,bn,bs⟩,ω,b7.trans K (λ_ _ h=>.inr (.inl h)),aC⟩
  | some p=>
   rw [bm]at aa;unfold tB at aa;subst aa;have ap:Hid ((ko l a++[(-1:Int)]).set a (p:Int)=ko l (a+1)):=O5 l a _ (by unfold qN;rw [cu.out,bm]);have bT:=(A.set (fun n:Int=>Value.int .i64 n) rfl a (by rw [bc];omega) (p:Int) (.int .i64 (p:Int)) rfl).drew;rw [ap.out]at bT;have cb:=A.cellAt (fun n:Int=>Value.int .i64 n) rfl a (by rw [bc];omega);have a5:ai (fun k=>k=m) d (d.setCell ⟨m,a,none⟩ (.int .i64 (p:Int))).drew:=(a9 d ⟨m,a,none⟩ (.int .i64 (p:Int))).trans (((Fr.refl _).drew).chg (fun k=>k=m)) (fun _ _ h=>h);have av:=Z.chg a5 (fun e=>d5 e.symm);have h8:=a5.heap I (fun e=>d3 e.symm);have J:=a5.heap G (fun e=>d4 e.symm);have b7 := bk.trans a5 (fun i hi h => by
     have h' : i = m := h;rcases aC m rfl with h1 | h1;·exact .inr (.inr (by rw[h1, h']))
     · omega)
   have ca:d.cell? ⟨m,a,none⟩=some _:=cb.1;have cf:d.frozen? ⟨m,a,none⟩=false:=cb.2;have ia:(a:Int)<(a:Int)+1:=ω;have fn:(0:Int)<=a:=ω;have a1:=bT;go_region;all_goals go_wp2_with fail
   clear Z A I G bk g0 g1 q0 q1 q2 bl HL bT ca cf cb ia;clear a5;generalize (d.setCell ⟨m,a,none⟩ (.int .i64 (p:Int))).drew=o at *;have b8:=av.fr ((Fr.refl o).drewN 1);obtain⟨w9,a3,bA,a4⟩:=b8.upd (t:=243) (p:=a) wL Tryz.underlying5 wK Tryz.underlying243 Tryz.underlying3 (by unfold maxLen;omega) ω x y z;unfold v3 at a3;rw[show o.drewN 1=o.drew from rfl]at a3 a4;have e0:=ag h8 0 rfl;have r0:=ag J 0 rfl;have r1:=ag J 1 rfl;have r2:=ag J 2 rfl;go_upto_region 6 with fail;go_region;all_goals go_wp2_with fail
   have bB:=((Fr.refl o).drewN 1).chg (λk=>k=mb);have K:ai (λk=>k=mb) o w9:=bB.trans a4 (λ_ _ h=>h);have h9:=K.heap h8 bv;have bR:=a1.chg K (λk hk e=>(tr a1 av) (by rw[hk,e]));go_end0;exact⟨rfl,_,n+1,⟨h9,bA.congr bf.out,bR,bn,bs⟩,ω,b7.trans K (λ_ _ h=>.inr (.inl h)),aC⟩
 ·have dv:(l.length:Int)<(a:Int)+3:=ω;have bf:Hid (∀x y z,lR l a x y z=lR l (a+1) x y z):=λx y z=>(by unfold lR;show _=if a+3<=l.length/\_ then _ else _;rw[ae (λh=>Q h.1)]);have ap:Hid (ko l a++[(-1:Int)]=ko l (a+1)):=(by show _=_;rw[A7];unfold qN m8;rw[ae Q]);go_wp2_with fail;refine bFQb (results_none rfl _ _ _) rfl ?_;exact⟨rfl,_,n,⟨h5,b1.congr bf.out,by rw[<- ap.out];exact b0,bn,bs⟩,ω,ak,aC⟩
def qP(o:Option Nat):Int:=match o with | some q=>(q:Int) | none=>-1
theorem O7(l:Z0)(p:Nat):qN l p=qP (m8 l p):=rfl
def UE(l:Z0)(a d:Nat)(t:Nat × Nat)(m:a<=l.length)(h:kU (dM l a d) t)(e:257<=t.1):(dM l a d).1=257:=by
 by_cases o:3<=(dM l a d).1;·have:=h.1 o;have z:=(tX l a m d).1;rw[this]at e;omega
 ·have:=h.2 ω;rw[this]at e;simp at e
def Q9(v:Value)(l:Z0)(base g mb a n:Nat)(pv:Value)(w:World)(hs:ah w eB v l)(hn:l.length<=1000000)(ha:a<l.length)(h:jo w base g mb l a n pv):Calls Tryz.prog 154 #[.pointer (some ⟨g,0,none⟩),v,N a] w λe w'=>∃t:Nat × Nat,e=.returned (.tuple #[N t.1,N t.2])/\kU (cC l a) t/\t.1<=257/\t.2<=a/\Fr w w':=by
 have HS:=ad (λW (o:Fr w W)=>hs.fr o);obtain⟨a0,da,rfl,dc,ca,di⟩:=hs.shape;unfold maxLen at ca;obtain⟨h0,hM,hP,dj,ds⟩:=h;obtain⟨pa,pc,bx⟩:=hP.shape';rw[qM]at bx;subst bx;have ap:=ad (λW (o:Fr w W)=>(by rw[aK (o.heap h0)];rfl:W.cell? ⟨g,0,none⟩=some (.map (some mb))));have cf:=ad (λW (o:Fr w W)=>(by rw[aK (o.heap h0)];rfl:W.cell? ⟨g,1,none⟩=some (.slice pa a pc)));have HL:=ad (λW (o:Fr w W) x y z=>(hM.fr o).look (t:=243) wL Tryz.underlying5 wK Tryz.underlying243 Tryz.underlying3 (C9 _) x y z);have ch:=ad (λW (o:Fr w W) p (K:p<a)=>(hP.fr o).see.cell1 (λn:Int=>Value.int .i64 n) rfl p (by rw[qM];exact K));have cj:=ad (λW (o:Fr w W) f (ck:f<a)=>Rq _ l f a W (HS.out W o) hn ck ω);clear hs hP hM h0;by_cases h3:a+3<=l.length
 ·have cl:¬(l.length:Int)<(a:Int)+3:=ω;have a1:=ad (λW (o:Fr w W)=>Gq _ l a W (HS.out W o) hn h3);have cm:=ad (Dg l a h3);have X:Fr w w.drew:=(Fr.refl w).drew;have b1:Hid (lR l a (l[a]'ω) (l[a+1]'ω) (l[a+2]'ω)=jy l (gr l a) a):=(by show _=_;unfold lR;rw[cm.out]);generalize l[a]=x at *;generalize l[a+1]=y at *;generalize l[a+2]=z at *;have e0:=ap.out w (Fr.refl w);have R:v3 x y z=.agg #[.int .u8 (x.toNat:Int),.int .u8 (y.toNat:Int),.int .u8 (z.toNat:Int)]:=rfl;go_in;go_upto_region 3 with fail;go_cut [8,9]from 16 to 26 (λsv ov wx=>Fr w wx/\Hid (match jy l (gr l a) a with | some p=>sv=N p/\ov=.bool true | none=>sv=N 0/\ov=.bool false))
  case first=>
   cases D:lR l a x y z with
   | none=>
    go_region_with (go_at_call 196;refine((a1.out _ X).mono ?_);rintro e I ⟨rfl,a3⟩;have L:=X.trans a3;have c0:=ap.out I L;have M:=HL.out I L x y z;rw[D]at M;unfold tB at M;rw[R]at M;rw[R]);all_goals go_wp2_with fail
    all_goals go_meet
    all_goals exact⟨L,by show match jy l (gr l a) a with | some p=>_ | none=>_;rw[<- b1.out,D];exact⟨rfl,rfl⟩⟩
   | some p=>
    go_region_with (go_at_call 196;refine((a1.out _ X).mono ?_);rintro e I ⟨rfl,a3⟩;have L:=X.trans a3;have c0:=ap.out I L;have M:=HL.out I L x y z;rw[D]at M;unfold tB at M;rw[R]at M;rw[R]);all_goals go_wp2_with fail
    all_goals go_meet
    all_goals exact⟨L,by show match jy l (gr l a) a with | some p=>_ | none=>_;rw[<- b1.out,D];exact⟨rfl,rfl⟩⟩
  case rest=>
   generalize cs:wc=wd at *;clear cs a1 e0 R;obtain⟨a4,Y⟩:=hcut
   cases D:jy l (gr l a) a with
   | none=>
    have U:=Y.out;rw[D]at U;obtain⟨rfl,rfl⟩:=U;have G:kU (cC l a) (0,0):=y9 l a 0 (0,0) (ar _) ⟨λh=>absurd h (by simp[dM]),λ_=>rfl⟩ (.inr λq F _=>Gm l _ a D q ω ω);clear Y;go_wp2;go_loopw [6,7,8] (λnv dv pv wr=>nv=N 0/\dv=N 0/\Fr w wr) (λ_ _ _ _=>0);case atStart=>exact⟨rfl,rfl,a4⟩
    case round=>obtain⟨rfl,rfl,o⟩:=hrel;go_wp2;go_ret2;exact⟨(0,0),rfl,G,σ,σ,o⟩
   | some p0=>
    have U:=Y.out;rw[D]at U;obtain⟨rfl,rfl⟩:=U;clear Y;have b4:Hid (qP (jy l (gr l a) (a-0))=(p0:Int)):=ad (by rw[wkQb,D];rfl);go_wp2;go_loopw [6,7,8] (λnv dv pv wr=>∃(d:Nat) (t:Nat × Nat) (J:Int),pv=.int .i64 J/\nv=N t.1/\dv=N t.2/\d<=min 4095 a/\Hid (J=qP (jy l (gr l a) (a-d)))/\-1<=J/\J<a/\Hid (kU (dM l a d) t)/\t.1<=257/\t.2<=a/\Fr w wr) (λ_ _ pv _=>(intOf pv+1).toNat);case atStart=>exact⟨0,(0,0),p0,rfl,rfl,rfl,ar _,b4.out.symm,ω,by have:=(vt _ _ _ _ D).1;omega,⟨λh=>absurd h (by simp[dM]),λ_=>rfl⟩,σ,σ,a4⟩
    case round=>
     clear a4 D b4;obtain⟨d,t,J,rfl,rfl,rfl,hd,Z,d1,d2,O,aC,ba,o⟩:=hrel;obtain⟨m,A⟩:=t;simp only at aC ba;go_upto_region 4 with fail;go_cut [41]from 27 to 41 (λcv wx=>∃V,cv=.bool V/\Hid (V=true->∃q:Nat,J=q/\jy l (gr l a) (a-d)=some q/\a<=4095+q/\m<257)/\Hid (V=false->kU (cC l a) (m,A))/\wr=wx)
     case first=>
      cases F:jy l (gr l a) (a-d)with
      | none=>have K:=Z.out;rw[F]at K;have bb:J=-1:=K;have G:kU (cC l a) (m,A):=y9 l a d (m,A) hd O.out (.inr λq cu _=>Gm l _ _ F q cu ω);subst bb;go_wp2;go_meet;exact⟨false,rfl,(λh=>by cases h),λ_=>G,rfl⟩
      | some q=>
       have K:=Z.out;rw[F]at K;have bb:J=(q:Int):=K;have bc:=vt _ _ _ _ F;have n1:¬(q:Int)=-1:=ω;have n2:((q:Int) == -1)=false:=σ;have n3:((q:Int) != -1)=true:=(by rw[bne,n2];rfl);subst bb;by_cases I:a<=4095+q
       ·have c4:(a:Int)-q<=4095:=ω;by_cases w2:m<257;·have c5:(m:Int)<257:=ω;go_wp2;go_meet;exact⟨true,rfl,λ_=>⟨q,rfl,F,I,w2⟩,(λh=>by cases h),rfl⟩
        ·have c5:¬(m:Int)<257:=ω;have G:kU (cC l a) (m,A):=y9 l a d (m,A) hd O.out (.inl (UE l a d (m,A) ω O.out (by show 257<=m;omega)));go_wp2;go_meet;exact⟨false,rfl,(λh=>by cases h),λ_=>G,rfl⟩
       ·have c4:¬(a:Int)-q<=4095:=ω;have G:kU (cC l a) (m,A):=y9 l a d (m,A) hd O.out (.inr λr c6 d5=>bc.2.2.2 r ω c6 ω);go_wp2;go_meet;exact⟨false,rfl,(λh=>by cases h),λ_=>G,rfl⟩
     case rest=>
      obtain⟨V,rfl,HT,HF,rfl⟩:=hcut
      cases V with
      | false=>have G:=HF.out rfl;clear HT HF Z O;go_wp2;go_ret2;exact⟨(m,A),rfl,G,aC,ba,o⟩
      | true=>
       obtain⟨q,rfl,F,I,w2⟩:=HT.out rfl;have hg:=UD l a d q (m,A) h3 ω F O.out;have bc:=vt _ _ _ _ F;have bk:q<a:=ω;obtain⟨bl,d6,b6⟩:=hg;have c8:=ad (cj.out wr o q bk);have b7:oE l a (m,A) (a-q)=if m<kY l q a then(kY l q a,a-q)else(m,A):=(by unfold oE;rw[show a-(a-q)=q by omega]);rw[b7]at bl;have aa:=ad bl;have cA:=Cb l 257 q a;rw[show ii l q a 257=kY l q a from rfl]at cA;have b8:=ad b6;have cB:(a:Int)-q=((a-q:Nat):Int):=ω;clear HT HF Z O b7 bl b6 F bc cB;generalize hk:kY l q a=k at *;clear hk;go_wp2_with fail;refine c8.out.mono ?_;rintro e w5 ⟨rfl,m5,b9⟩;have ab:Fr w w5:=(by rw[b9];exact o.drewN m5);clear b9;have c1:=cf.out w5 ab;obtain⟨pb,ec,ef,bA,cp⟩:=ch.out w5 ab q bk;rw[qM]at bA;cases bA;rw[O6 l a q bk,O7]at cp;have i1:(0:Int)<=q:=ω;have i2:(q:Int)<a:=ω;have cL:-1<=qP (m8 l q)/\qP (m8 l q)<q:=by
        cases ac:m8 l q with
        | none=>exact⟨Int.le_refl _,by show(-1:Int)<_;omega⟩
        | some r=>
         unfold m8 at ac;split at ac;·have:=(vt _ _ _ _ ac).1;exact⟨by show(-1:Int)<=(r:Int);omega,by show(r:Int)<_;omega⟩
         ·cases ac
       have bB:Hid (qP (m8 l q)=qP (jy l (gr l a) (a-(a-q)))):=(by show _=_;rw[b8.out]);clear b8;generalize qP (m8 l q)=np at *;obtain⟨bR,er⟩:=cL;by_cases bT:m<k
       ·have cN:(m:Int)<k:=ω;have Q:=aa.out;rw[af bT]at Q;have HG:=ad Q;clear Q aa;go_wp2;go_roundw;case rel=>exact⟨a-q,(k,a-q),np,rfl,rfl,γ,ω,bB,bR,ω,HG,by show k<=257;omega,by show a-q<=a;omega,ab⟩
        case measure=>exact μ
       ·have cN:¬(m:Int)<k:=ω;have Q:=aa.out;rw[ae bT]at Q;have HG:=ad Q;clear Q aa;go_wp2;go_roundw;case rel=>exact⟨a-q,(m,A),np,rfl,rfl,rfl,ω,bB,bR,ω,HG,aC,ba,ab⟩
        case measure=>exact μ
 ·have cl:(l.length:Int)<(a:Int)+3:=ω;go_in;go_wp2;go_ret2;exact⟨(0,0),rfl,⟨λh=>absurd h (by have:=V4 l a ω ω;omega),λ_=>rfl⟩,σ,σ,Fr.refl w⟩
section
variable {w0 w W:World} {base g mb a n B:Nat} {l:Z0} {pv:Value}
theorem BG(h:jo w base g mb l a n pv)(m:Below B w0 w)(o:B<=w.heap.size)(d:B<=base)(z:ai (λk=>k=g\/k=mb\/pv.ownBlock=some k) w W):Below B w0 W:=
 ai.below m z o λi e=>by
  rcases e with rfl | rfl | e
  ·exact ay d h.up
  ·exact ay d h.up2
  ·exact ay d (h.prev.lt i e).1
theorem Iy{α:Type}{E:aw Tryz.prog α}{A:Nat}{v:Value}{m:List α}(h:jo w base g mb l a n pv)(o:Ow w A E v m)(D:245≠E.e/\(eZ:aw Tryz.prog Int).e≠E.e)(F:ai (λk=>k=g\/k=mb\/pv.ownBlock=some k) w W):Ow W A E v m:=
 o.chg F λk d e=>by
  rcases e with rfl | rfl | e
  ·exact o.ne_cells h.at0 D.1 d
  ·exact tr o h.map d
  ·rcases kL o h.prev D.2 with z | z
   ·rw[z]at d;cases d
   ·exact z (d.trans e.symm)
theorem jo.fr(h:jo w base g mb l a n pv)(d:Fr w W):jo W base g mb l a n pv:=⟨d.heap h.at0,h.map.fr d,h.prev.fr d,h.up,h.up2⟩
theorem jo.chg{G:Nat->Prop}(h:jo w base g mb l a n pv)(d:ai G w W)(e:¬G g)(m:¬G mb)(o:∀k,pv.ownBlock=some k->¬G k):jo W base g mb l a n pv:=⟨d.heap h.at0 e,h.map.chg d m,h.prev.chg d o,h.up,h.up2⟩
theorem jo.app{α:Type}{E:aw Tryz.prog α}{A:Nat}{v v':Value}{m F:List α}(h:jo w base g mb l a n pv)(d:Ow w A E v m)(D:245≠E.e/\E.e≠(eZ:aw Tryz.prog Int).e)(G:dw A E F w v v' W):jo W base g mb l a n pv:=
 h.chg G.chg' (λe=>d.ne_cells h.at0 D.1 e) (λe=>tr d h.map e) λk o e=>by
  rcases kL h.prev d D.2 with z | z
  ·rw[z]at o;cases o
  ·exact z (o.trans e.symm)
end
def Xr(v:Value)(l:Z0)(w:World)(hs:ah w eB v l)(hn:l.length<=1000000):Calls Tryz.prog 108 #[v] w λe w'=>∃v',e=.returned v'/\Ow w' w.heap.size kS v' (eh l)/\Fr w w':=by
 have HS:=ad (λW (h:Fr w W)=>hs.fr h);obtain⟨a0,d2,rfl,d3,c0,d4⟩:=hs.shape;unfold maxLen at c0;have HB:=ad (λW (h:Fr w W) k J=>qi (HS.out W h) k J);have c3:=ad (λW (o:Fr w W) g mb a n pv (Y:a<l.length) (F:jo W w.heap.size g mb l a n pv)=>Q9 _ l w.heap.size g mb a n pv W (HS.out W o) hn Y F);have HAdd:=ad (λW a n pv (o:Fr w W) (Y:a<l.length) (F:jo W w.heap.size (w.heap.size+1) w.heap.size l a n pv) (a4:n<=a)=>VT _ l w.heap.size (w.heap.size+1) w.heap.size a n pv W (HS.out W o) hn Y F a4 (λW' c5=>HS.out W' (BG F o (by have:=o.size;omega) (al _) c5)));have c6:=@run_makeMap Tryz.prog;have ca:Fr w (w.alloc (.map #[] 0)):=(Fr.refl w).alloc _;have cb:=ik.made w Tryz.prog 301 3;clear hs;go_in;go_wp2_with fail;have cc:((w.alloc (.map #[] 0)).alloc (.cells #[.map (some w.heap.size),.slice none 0 0] 245)).heap[w.heap.size+1]?=some (.cells #[.map (some w.heap.size),.slice none 0 0] 245 (0,0)):=by exact aB (w.alloc (.map #[] 0)) _ (w.heap.size+1) (by rw[eW])
 have bl:Fr (w.alloc (.map #[] 0)) ((w.alloc (.map #[] 0)).alloc (.cells #[.map (some w.heap.size),.slice none 0 0] 245)):=(Fr.refl _).alloc _
 have cf:jo ((w.alloc (.map #[] 0)).alloc (.cells #[.map (some w.heap.size),.slice none 0 0] 245)) w.heap.size (w.heap.size+1) w.heap.size l 0 0 (.slice none 0 0):=
  ⟨cc,cb.fr bl,Ow.nil,ω,al _⟩
 have ch:=ca.trans bl;generalize (w.alloc (.map #[] 0)).alloc (.cells #[.map (some w.heap.size),.slice none 0 0] 245)=W0 at *;clear ca bl cc cb c6;go_loopw [4,5] (λov R wr=>∃(a n:Nat) (pv:Value) (m:List aU),a<=l.length/\R=N a/\Ow wr w.heap.size kS ov m/\m.length<=a/\Hid (eh l=m++gL l a)/\jo wr w.heap.size (w.heap.size+1) w.heap.size l a n pv/\n<=a/\Fr w wr) (λ_ R _=>l.length-(intOf R).toNat);case atStart=>exact⟨0,0,_,[],ar _,rfl,Ow.nil,ar _,rfl,cf,al _,ch⟩
 case round=>
  clear cf ch;obtain⟨a,n,pv,m,Y,rfl,D,d6,Z,z,a4,o⟩:=hrel;obtain⟨va,vc,cE⟩:=D.shape';subst cE;by_cases a5:a<l.length
  ·have dE:(a:Int)<l.length:=ω;obtain⟨b,cF,dT,hv,cA⟩:=HB.out wr o a a5;cases hv;have HM:=ad (tL l a a5);have HL:=ad (tM l a a5);have cj:=tX l a Y (min 4095 a);rw[show dM l a (min 4095 a)=cC l a from rfl]at cj;generalize hx:l[a]=x at *;replace cA:wr.cell? ⟨b,cF+a,none⟩=some (.int .u8 ((x.toNat:Nat):Int)):=cA;have a6:Fr wr (wr.alloc (.cells #[.int .u8 (x.toNat:Int),.int .i64 0,.int .i64 0] 238)):=(Fr.refl wr).alloc _;have ck:(wr.alloc (.cells #[.int .u8 (x.toNat:Int),.int .i64 0,.int .i64 0] 238)).heap[wr.heap.size]?=some (.cells #[.int .u8 (x.toNat:Int),.int .i64 0,.int .i64 0] 238 (0,0)):=aB _ _ _ rfl;have ef:w.heap.size+1<wr.heap.size:=(aR.1 z.at0).1;have cL:∀k,pv.ownBlock=some k->k<wr.heap.size:=λk J=>(z.prev.lt k J).2;have cN:∀k,(Value.slice va m.length vc).ownBlock=some k->k<wr.heap.size:=λk J=>(D.lt k J).2;have bu:=z.fr a6;have cl:=D.fr a6;have bv:=o.trans a6;have cm:=ad (c3.out _ bv _ _ a n pv a5 bu);go_upto_region 5 with fail;go_wp2_with fail;generalize wr.alloc (.cells #[.int .u8 (x.toNat:Int),.int .i64 0,.int .i64 0] 238)=WA at *;refine cm.out.mono ?_;rintro e WC ⟨⟨d,G⟩,rfl,a7,cR,cT,aC⟩;simp only at cR cT;have ba:=bu.fr aC;have bb:=cl.fr aC;have ab:=bv.trans aC;have Q:=aC.heap ck;clear z D o a6 ck bu cl bv cm cA;generalize da:cC l a=bk at *;clear da;generalize wr.heap.size=A at *;have j0:=ag Q 0 rfl;have j1:=ag Q 1 rfl;have j2:=ag Q 2 rfl;have f0:=a8 Q 0;have f1:=a8 Q 1;have f2:=a8 Q 2;by_cases h3:3<=bk.1
   ·have U:=a7.1 h3;have ac:bk.1=d:=(by rw[<- U]);have bc:bk.2=G:=(by rw[<- U]);rw[ac]at h3 cj;have eq:(3:Int)<=d:=ω;have aj:Hid (eh l=(m++[⟨0,d,G⟩])++gL l (a+d)):=by show _=_;rw[Z.out,HM.out ω,ac,bc];simp
    have bd:ai (λk=>k=A) WC (((WC.setCell ⟨A,0,none⟩ (.int .u8 0)).setCell ⟨A,1,none⟩ (N d)).setCell ⟨A,2,none⟩ (N G)):=
     ((a9 WC ⟨A,0,none⟩ _).trans (a9 _ ⟨A,1,none⟩ _) (λ_ _ h=>h)).trans (a9 _ ⟨A,2,none⟩ _) (λ_ _ h=>h)
    have ak:=ba.chg bd ω ω (λk J e=>by have:=cL k J;omega);have K:=bb.chg bd (λk J e=>by have:=cN k J;omega);have L:Fr w _:=ai.below ab bd ab.size (λi e=>by omega);have dc:Hid (kS.enc (⟨0,d,G⟩:aU)=[.int .u8 0,N d,N G]):=rfl;clear ba bb ab HM HL Z a7 U ac bc;go_upto_region 11 with fail
    have b1:(((WC.setCell ⟨A,0,none⟩ (.int .u8 0)).setCell ⟨A,1,none⟩ (N d)).setCell ⟨A,2,none⟩ (N G)).heap[A]?=some (.cells #[.int .u8 0,N d,N G] 238 (0,0)):=
     aJ (aJ (aJ Q 0 _) 1 _) 2 _
    clear bd j0 j1 j2 f0 f1 f2 Q dc;generalize ((WC.setCell ⟨A,0,none⟩ (.int .u8 0)).setCell ⟨A,1,none⟩ (N d)).setCell ⟨A,2,none⟩ (N G)=W5 at *;have j0:=ag b1 0 rfl;have j1:=ag b1 1 rfl;have j2:=ag b1 2 rfl;go_wp2_with (at_builtin;refine cW kS rfl (.tmp 35) (.tmp 37) 170 rfl Tryz.underlying170 w.heap.size rfl K [⟨0,d,G⟩] _ _ _ rfl rfl rfl (by simp;omega) L.size ?_);intro v' w6 M;have b2:=ak.app K δ M;have b3:=M.own;have b4:=M.below K L (al _) L.size;clear M ak K L;go_wp2;go_loopw [5,40] (λR V X=>∃(j I:Nat) (O:Value),j<=d/\V=N j/\R=N (a+j)/\jo X w.heap.size (w.heap.size+1) w.heap.size l (a+j) I O/\I<=a+j/\Ow X w.heap.size kS v' (m++[⟨0,d,G⟩])/\Fr w X) (λ_ V _=>d-(intOf V).toNat);case atStart=>exact⟨0,n,pv,ar _,rfl,rfl,b2,a4,b3,b4⟩
    case round=>
     obtain⟨j,I,O,hj,rfl,rfl,z,ap,D,o⟩:=hrel;by_cases ds:j<d
     ·have dv:(j:Int)<d:=ω;have b5:=ad (HAdd.out wr (a+j) I O o ω z ap);have b6:=ad (λW F=>BG (W:=W) z o (by have:=o.size;omega) (al _) F);have b7:=ad (λW F=>Iy (W:=W) z D δ F);clear z D;go_wp2_with fail;refine b5.out.mono ?_;rintro e w5 ⟨rfl,b8,n5,bA,bB,a2,_⟩;have bL:=b6.out w5 a2;have bR:=b7.out w5 a2;go_wp2;go_roundw;case rel=>exact⟨j+1,n5,b8,ω,γ,γ,bA,bB,bR,bL⟩
      case measure=>exact μ
     ·obtain rfl:d=j:=ω;have d0:¬(d:Int)<d:=ω;go_wp2;go_roundw;case rel=>exact⟨a+d,I,O,(m++[⟨0,d,G⟩]),ω,γ,D,by simp;omega,aj,z,ap,o⟩
      case measure=>exact μ
   ·have U:=a7.2 ω;have ac:d=0:=(by have:=dp Prod.fst U;exact this);have bc:G=0:=(by have:=dp Prod.snd U;exact this);subst ac;subst bc;have aj:Hid (eh l=(m++[⟨x,0,0⟩])++gL l (a+1)):=(by show _=_;rw[Z.out,HL.out h3];simp);have ak:=ba;have K:=bb;have L:=ab;clear ba bb ab HM HL Z a7 U f0 f1 f2;obtain⟨st,es⟩:∃st,st=1:=⟨1,rfl⟩;go_upto_region 11 with fail;go_wp2_with (at_builtin;refine cW kS rfl (.tmp 35) (.tmp 37) 170 rfl Tryz.underlying170 w.heap.size rfl K [⟨x,0,0⟩] _ _ _ rfl rfl rfl (by simp;omega) L.size ?_);intro v' w6 M;have b2:=ak.app K δ M;have b3:=M.own;have b4:=M.below K L (al _) L.size;clear M ak K L;go_wp2;go_loopw [5,40] (λR V X=>∃(j I:Nat) (O:Value),j<=1/\V=N j/\R=N (a+j)/\jo X w.heap.size (w.heap.size+1) w.heap.size l (a+j) I O/\I<=a+j/\Ow X w.heap.size kS v' (m++[⟨x,0,0⟩])/\Fr w X) (λ_ V _=>1-(intOf V).toNat);case atStart=>exact⟨0,n,pv,ar _,rfl,rfl,b2,a4,b3,b4⟩
    case round=>
     obtain⟨j,I,O,hj,rfl,rfl,z,ap,D,o⟩:=hrel;by_cases ds:j<1
     ·have dv:(j:Int)<1:=ω;have b5:=ad (HAdd.out wr (a+j) I O o ω z ap);have b6:=ad (λW F=>BG (W:=W) z o (by have:=o.size;omega) (al _) F);have b7:=ad (λW F=>Iy (W:=W) z D δ F);clear z D;go_wp2_with fail;refine b5.out.mono ?_;rintro e w5 ⟨rfl,b8,n5,bA,bB,a2,_⟩;have bL:=b6.out w5 a2;have bR:=b7.out w5 a2;go_wp2;go_roundw;case rel=>exact⟨j+1,n5,b8,ω,γ,γ,bA,bB,bR,bL⟩
      case measure=>exact μ
     ·obtain rfl:1=j:=ω;have d0:¬(1:Int)<1:=ω;go_wp2;go_roundw;case rel=>exact⟨a+1,I,O,(m++[⟨x,0,0⟩]),ω,γ,D,by simp;omega,aj,z,ap,o⟩
      case measure=>exact μ
  ·obtain rfl:a=l.length:=ω;have ev:¬(l.length:Int)<l.length:=ω;have aj:Hid (m=eh l):=ad (by rw[Z.out,vD l _ (al _),dg]);go_wp2;go_ret;exact⟨_,rfl,by rw[<- aj.out];exact D,o⟩
