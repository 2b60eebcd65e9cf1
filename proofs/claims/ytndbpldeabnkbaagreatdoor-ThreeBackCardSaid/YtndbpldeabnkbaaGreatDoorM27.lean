/- Lemmas for ThreeTurned. -/
import Derived.Test.YtndbpldeabnkbaaGreatDoorM24
import Derived.Test.YtndbpldeabnkbaaGreatDoorM26
import Derived.Test.YtndbpldeabnkbaaGreatDoorM28
set_option linter.all false
set_option maxHeartbeats 8000000
set_option maxRecDepth 100000
namespace Go.Proofs.YtndbpldeabnkbaaGreatDoor
open Go.RowKit Go.Fk
def Jp(t:aU)(w:World)(hm:ex t=true):Calls Tryz.prog 191 #[nM t] w λe w'=>e=.returned (.tuple #[OZ (aX t),.int .i64 0])/\Fr w w':=by
 have R:=ad (λW=>J6 t W hm);have ak:=ad (λv W D h2=>Uy v W D h2);have av:Fr w (w.alloc (.cells #[.int .u8 (t.lit.toNat:Int),N t.len,N t.dist] 238)):=(Fr.refl w).alloc _;have a3:(w.alloc (.cells #[.int .u8 (t.lit.toNat:Int),N t.len,N t.dist] 238)).heap[w.heap.size]?=some (.cells #[.int .u8 (t.lit.toNat:Int),N t.len,N t.dist] 238 (0,0)):=aB _ _ _ rfl;have U:Fr (w.alloc (.cells #[.int .u8 (t.lit.toNat:Int),N t.len,N t.dist] 238)) ((w.alloc (.cells #[.int .u8 (t.lit.toNat:Int),N t.len,N t.dist] 238)).alloc (.cells #[N 0,N 0,N 0,N 0] 286)):=(Fr.refl _).alloc _;have a4:((w.alloc (.cells #[.int .u8 (t.lit.toNat:Int),N t.len,N t.dist] 238)).alloc (.cells #[N 0,N 0,N 0,N 0] 286)).heap[w.heap.size+1]?=some (.cells #[N 0,N 0,N 0,N 0] 286 (0,0)):=aB _ _ (w.heap.size+1) (by rw[eW]);have J:=U.heap a3;have a5:=av.trans U;have L:aX t=if t.len=0 then⟨t.lit.toNat,0,0,0⟩else⟨257+fx (t.len-2),ix (t.len-2),fx t.dist,ix t.dist⟩:=rfl;have V:=ad (qT t hm);have bs:=t.lit.toNat_lt;clear av U a3;go_in;go_upto_region 1 with fail;generalize (w.alloc (.cells #[.int .u8 (t.lit.toNat:Int),N t.len,N t.dist] 238)).alloc (.cells #[N 0,N 0,N 0,N 0] 286)=W1 at *;have HT:=ad J;have HP:=ad a4;have HF:=ad a5;have X:=ad (R.out W1);have e0:=ag J 0 rfl;have e1:=ag J 1 rfl;have e2:=ag J 2 rfl;have HE:=ad (λW (h:Fr W1 W)=>And.intro (h.cell e0) (And.intro (h.cell e1) (h.cell e2)));clear J a4 a5;go_wp2_with fail;refine X.out.mono ?_;rintro e F ⟨rfl,G⟩;obtain⟨a0,a1,a2⟩:=HE.out F G;clear e0 e1 e2;by_cases K:t.len=0
 ·have Y:=ad (L.trans (af K));have m:=G.heap HP.out;rw[K]at a1;generalize t.lit.toNat=I at *;have b0:=ag m 0 rfl;have b1:=ag m 1 rfl;have b2:=ag m 2 rfl;have b3:=ag m 3 rfl;have f0:=a8 m 0;have f1:=a8 m 1;have f2:=a8 m 2;have f3:=a8 m 3;have M:=ad (HF.out.trans G);have Z:=ad m;have cp:=ax (I:Int) ω;clear L V m X R;go_wp2_with fail
  have D:((((F.setCell ⟨w.heap.size+1,0,none⟩ (N I)).setCell ⟨w.heap.size+1,1,none⟩ (N 0)).setCell ⟨w.heap.size+1,2,none⟩ (N 0)).setCell ⟨w.heap.size+1,3,none⟩ (N 0)).heap[w.heap.size+1]?=some (.cells #[N I,N 0,N 0,N 0] 286 (0,0)):=
   aJ (aJ (aJ (aJ Z.out 0 _) 1 _) 2 _) 3 _
  have aa:ai (λk=>k=w.heap.size+1) F ((((F.setCell ⟨w.heap.size+1,0,none⟩ (N I)).setCell ⟨w.heap.size+1,1,none⟩ (N 0)).setCell ⟨w.heap.size+1,2,none⟩ (N 0)).setCell ⟨w.heap.size+1,3,none⟩ (N 0)):=
   (((a9 F ⟨w.heap.size+1,0,none⟩ _).trans (a9 _ ⟨w.heap.size+1,1,none⟩ _) (λ_ _ h=>h)).trans (a9 _ ⟨w.heap.size+1,2,none⟩ _) (λ_ _ h=>h)).trans (a9 _ ⟨w.heap.size+1,3,none⟩ _) (λ_ _ h=>h)
  have ab:Fr w _:=ai.below M.out aa M.out.size (λk hk=>by omega);exact bF (v:=.tuple #[.agg #[N I,N 0,N 0,N 0],.int .i64 0]) (qK Tryz.results191 _ _ (w.heap.size+1) 286 _ (0,0) _ _ rfl rfl D Tryz.underlying286 rfl (by kernel_rfl)) rfl ⟨by rw[Y.out],ab⟩
 ·obtain⟨_,D,h2,h3,h4⟩:=V.out K;have Y:=ad (L.trans (ae K));have bL:=ad (ak.out (t.len-2) F ω ω);have bR:=ad (λW=>ak.out t.dist W ω ω);have c1:=yx (t.len-2) 8 ω (by have:(2:Nat)^8=256:=rfl;omega);generalize hc:fx (t.len-2)=c at *;generalize hr:ix (t.len-2)=r at *;generalize hd:fx t.dist=d at *;generalize hq:ix t.dist=q at *;clear hc hr hd hq bs;generalize cf:t.len=O at *;generalize ch:t.dist=td at *;have n1:¬(O:Int)=0:=ω;have n2:((O:Int) == 0)=false:=(by simp[K]);have n3:(O:Int)-2=((O-2:Nat):Int):=ω;have M:=ad (HF.out.trans G);have m:=ad (G.heap HP.out);clear L V X R cf ch;go_wp2_with fail;refine bL.out.mono ?_;rintro e W3 ⟨rfl,ac⟩;obtain⟨c4,c5,c6⟩:=HE.out W3 (G.trans ac);have cj:=ad (M.out.trans ac);have ck:=ad (ac.heap m.out);have cl:=ad (bR.out W3);clear a0 a1 a2;go_wp2_with fail;refine cl.out.mono ?_;rintro e Q ⟨rfl,bl⟩;have o:=bl.heap ck.out;have bm:=ad (cj.out.trans bl);have b0:=ag o 0 rfl;have b1:=ag o 1 rfl;have b2:=ag o 2 rfl;have b3:=ag o 3 rfl;have f0:=a8 o 0;have f1:=a8 o 1;have f2:=a8 o 2;have f3:=a8 o 3;have Z:=ad o;obtain⟨z,bn⟩:∃z,z=257+c:=⟨_,rfl⟩;have c7:(257:Int)+c=(z:Int):=ω;have cm:=ad bn;clear bn;clear o;go_wp2_with fail
  have D:((((Q.setCell ⟨w.heap.size+1,0,none⟩ (N z)).setCell ⟨w.heap.size+1,1,none⟩ (N r)).setCell ⟨w.heap.size+1,2,none⟩ (N d)).setCell ⟨w.heap.size+1,3,none⟩ (N q)).heap[w.heap.size+1]?=some (.cells #[N z,N r,N d,N q] 286 (0,0)):=
   aJ (aJ (aJ (aJ Z.out 0 _) 1 _) 2 _) 3 _
  have aa:ai (λk=>k=w.heap.size+1) Q ((((Q.setCell ⟨w.heap.size+1,0,none⟩ (N z)).setCell ⟨w.heap.size+1,1,none⟩ (N r)).setCell ⟨w.heap.size+1,2,none⟩ (N d)).setCell ⟨w.heap.size+1,3,none⟩ (N q)):=
   (((a9 Q ⟨w.heap.size+1,0,none⟩ _).trans (a9 _ ⟨w.heap.size+1,1,none⟩ _) (λ_ _ h=>h)).trans (a9 _ ⟨w.heap.size+1,2,none⟩ _) (λ_ _ h=>h)).trans (a9 _ ⟨w.heap.size+1,3,none⟩ _) (λ_ _ h=>h)
  have ab:Fr w _:=ai.below bm.out aa bm.out.size (λk hk=>by omega);exact bF (v:=.tuple #[.agg #[N z,N r,N d,N q],.int .i64 0]) (qK Tryz.results191 _ _ (w.heap.size+1) 286 _ (0,0) _ _ rfl rfl D Tryz.underlying286 rfl (by kernel_rfl)) rfl ⟨by rw[Y.out,cm.out],ab⟩
def Ax{α:Type}(n:Nat)(f:Nat->α)(i:Nat)(x:α):((List.range n).map f).set i x=(List.range n).map (λj=>if j=i then x else f j):=by
 apply gT;·simp
 ·intro j d m;simp only[List.getElem_set,fK,jd];by_cases e:j=i;·subst e;simp
  ·rw[ae (λh=>e h.symm),ae e]
def zN{w:World}{v:Value}{l:List aU}(h:ah w kS v l)(k:Nat)(m:k<l.length):∃b d o,v=.slice (some ⟨b,d,none⟩) l.length o/\w.cell? ⟨b,d+k*3,none⟩=some (.int .u8 (l[k].lit.toNat:Int))/\w.cell? ⟨b,d+k*3+1,none⟩=some (N l[k].len)/\w.cell? ⟨b,d+k*3+2,none⟩=some (N l[k].dist):=by
 obtain⟨b,d,o,rfl,A,D,z⟩:=h.cells (by intro e;simp[e]at m);exact⟨b,d,o,rfl,z k m 0 δ _ rfl,z k m 1 δ _ rfl,z k m 2 δ _ rfl⟩
def XM(v:Value)(l:List aU)(w:World)(hs:ah w kS v l)(hn:l.length<=1000000)(hm:∀t∈l,ex t=true):Calls Tryz.prog 150 #[v] w λe w'=>∃u1 u2,e=.returned (.tuple #[u1,u2,.int .i64 0])/\Ow w' w.heap.size eV u1 (gx l)/\Ow w' w.heap.size eV u2 (iB l)/\Fr w w':=by
 have HS:=ad (λW (h:Fr w W)=>hs.fr h);obtain⟨a0,cF,rfl,cG,cf,cL⟩:=hs.shape;unfold maxLen at cf;have ch:=ad (λt W h=>Jp t W h);have m1:(Instr.makeSlice 229 (.int .i64 265) (.int .i64 265)).run Tryz.prog w.drew=.ok (.slice (some ⟨w.heap.size,0,none⟩) 265 265) (w.drew.alloc (.cells (madeCells (eV:aw Tryz.prog Nat).z.cells (265*(eV:aw Tryz.prog Nat).k)) (eV:aw Tryz.prog Nat).e)):=vk (eV:aw Tryz.prog Nat) 229 Tryz.underlying229 .i64 .i64 265 ω w.drew;have m2:(Instr.makeSlice 229 (.int .i64 12) (.int .i64 12)).run Tryz.prog w.drew=.ok (.slice (some ⟨w.heap.size,0,none⟩) 12 12) (w.drew.alloc (.cells (madeCells (eV:aw Tryz.prog Nat).z.cells (12*(eV:aw Tryz.prog Nat).k)) (eV:aw Tryz.prog Nat).e)):=vk (eV:aw Tryz.prog Nat) 229 Tryz.underlying229 .i64 .i64 12 ω w.drew;have m3:(Instr.makeSlice 229 (.int .i64 12) (.int .i64 12)).run Tryz.prog (w.alloc (.cells (madeCells (eV:aw Tryz.prog Nat).z.cells (265*(eV:aw Tryz.prog Nat).k)) (eV:aw Tryz.prog Nat).e)).drew=.ok (.slice (some ⟨w.heap.size+1,0,none⟩) 12 12) ((w.alloc (.cells (madeCells (eV:aw Tryz.prog Nat).z.cells (265*(eV:aw Tryz.prog Nat).k)) (eV:aw Tryz.prog Nat).e)).drew.alloc (.cells (madeCells (eV:aw Tryz.prog Nat).z.cells (12*(eV:aw Tryz.prog Nat).k)) (eV:aw Tryz.prog Nat).e)):=by have:=vk (eV:aw Tryz.prog Nat) 229 Tryz.underlying229 .i64 .i64 12 ω (w.alloc (.cells (madeCells (eV:aw Tryz.prog Nat).z.cells (265*(eV:aw Tryz.prog Nat).k)) (eV:aw Tryz.prog Nat).e)).drew;rwa [show ∀(W:World),W.drew.heap=W.heap from λ_=>rfl,eW]at this
 have m4:(Instr.makeSlice 229 (.int .i64 265) (.int .i64 265)).run Tryz.prog (w.alloc (.cells (madeCells (eV:aw Tryz.prog Nat).z.cells (12*(eV:aw Tryz.prog Nat).k)) (eV:aw Tryz.prog Nat).e)).drew=.ok (.slice (some ⟨w.heap.size+1,0,none⟩) 265 265) ((w.alloc (.cells (madeCells (eV:aw Tryz.prog Nat).z.cells (12*(eV:aw Tryz.prog Nat).k)) (eV:aw Tryz.prog Nat).e)).drew.alloc (.cells (madeCells (eV:aw Tryz.prog Nat).z.cells (265*(eV:aw Tryz.prog Nat).k)) (eV:aw Tryz.prog Nat).e)):=by have:=vk (eV:aw Tryz.prog Nat) 229 Tryz.underlying229 .i64 .i64 265 ω (w.alloc (.cells (madeCells (eV:aw Tryz.prog Nat).z.cells (12*(eV:aw Tryz.prog Nat).k)) (eV:aw Tryz.prog Nat).e)).drew;rwa [show ∀(W:World),W.drew.heap=W.heap from λ_=>rfl,eW]at this
 have L:=λW (hb:w.heap.size<=W.heap.size)=>AX (base:=w.heap.size) (eV:aw Tryz.prog Nat) 265 ω W hb;have M:=λW (hb:w.heap.size<=W.heap.size)=>AX (base:=w.heap.size) (eV:aw Tryz.prog Nat) 12 ω W hb;have L:=ad L;have M:=ad M;generalize cn:(Obj.cells (madeCells (eV:aw Tryz.prog Nat).z.cells (265*(eV:aw Tryz.prog Nat).k)) (eV:aw Tryz.prog Nat).e)=Z at *;generalize cp:(Obj.cells (madeCells (eV:aw Tryz.prog Nat).z.cells (12*(eV:aw Tryz.prog Nat).k)) (eV:aw Tryz.prog Nat).e)=A2 at *;clear hs cn cp;go_in;go_upto_region 1 with fail;go_cut [5,6]from 11 to 12 (λv1 v2 wx=>∃o z,v1=.slice (some ⟨o,0,none⟩) 265 265/\v2=.slice (some ⟨z,0,none⟩) 12 12/\o≠z/\Ow wx w.heap.size eV v1 (List.replicate 265 0)/\Ow wx w.heap.size eV v2 (List.replicate 12 0)/\Fr w wx)
 case first=>
  go_region;all_goals go_wp2_with fail
  all_goals go_meet
  ·exact⟨w.heap.size,w.heap.size+1,rfl,rfl,ω,((L.out w (al _)).fr ((Fr.refl _).alloc A2)).drew,(by have:=(M.out (w.alloc Z) (by rw[eW];omega)).drew;rwa [eW]at this),(((Fr.refl w).alloc Z).alloc A2).drew⟩
  ·exact⟨w.heap.size+1,w.heap.size,rfl,rfl,ω,(by have:=(L.out (w.alloc A2) (by rw[eW];omega)).drew;rwa [eW]at this),((M.out w (al _)).fr ((Fr.refl _).alloc Z)).drew,(((Fr.refl w).alloc A2).alloc Z).drew⟩
 case rest=>
  obtain⟨o,z,rfl,rfl,cN,D,F,bx⟩:=hcut;clear m1 m2 m3 m4 L M;go_wp2;go_loopw [15] (λiv wr=>∃k:Nat,k<=l.length/\iv=N k/\Ow wr w.heap.size eV (.slice (some ⟨o,0,none⟩) 265 265) ((List.range 265).map (fT (l.take k)))/\Ow wr w.heap.size eV (.slice (some ⟨z,0,none⟩) 12 12) ((List.range 12).map (j8 (l.take k)))/\Fr w wr) (λiv _=>l.length-(intOf iv).toNat);case atStart=>exact⟨0,ar _,rfl,by rw[lj];exact D,by rw[lj];exact F,bx⟩
  case round=>
   clear D F bx;obtain⟨k,K,rfl,D,F,O⟩:=hrel;by_cases a5:k<l.length
   ·obtain⟨b,cR,cT,hv,c0,c1,c2⟩:=zN (HS.out wr O) k a5;cases hv;have b0:=hm _ (bJ a5);have b1:=f8 a5;have b2:Hid (∀W,Calls Tryz.prog 191 #[nM l[k]] W λe w'=>e=.returned (.tuple #[.agg #[N (aX l[k]).sym,N (aX l[k]).len,N (aX l[k]).dist,N (aX l[k]).far],.int .i64 0])/\Fr W w'):=λW=>ch.out l[k] W b0;have cu:=xG l[k] b0;generalize l[k]=t at *;have i1:(0:Int)<=k:=ω;have i2:(k:Int)<l.length:=ω;go_wp2_with fail;refine(b2.out _).mono ?_;rintro e A ⟨rfl,b3⟩;have ab:Fr wr A:=((Fr.refl wr).alloc _).trans b3;have a6:Fr A (A.alloc (.cells #[N (aX t).sym,N (aX t).len,N (aX t).dist,N (aX t).far] 286)):=(Fr.refl A).alloc _;have Q:=(D.fr ab).fr a6;have ac:=(F.fr ab).fr a6;have a7:=(O.trans ab).trans a6;have b4:(l.take k).length<=1000000:=(by rw[aA];omega);have aC:=Mk (l.take k) t;have ba:=SW (l.take k) t;rw[<- b1]at aC ba;have b5:=λj=>wY (l.take k) j;have b6:=λj=>Bv (l.take k) j;obtain⟨dj,ds,dv,d0,cv,c3⟩:=cu;have b7:=ad aC;have aj:=ad ba;have b8:=ad b5;have bb:=ad b6;clear aC ba b5 b6 b3 ab D F O c0 c1 c2 b2 b1;generalize d1:(aX t).sym=d at *;generalize d2:(aX t).dist=m at *;generalize (aX t).far=fa,(aX t).len=le at *;have c4:fT (l.take k) d<=1000000:=ay (b8.out d) b4;have d3:j8 (l.take k) m<=1000000:=ay (bb.out m) b4;have R:=Q.cellAt (λn:Nat=>Value.int .u32 (n:Int)) rfl d (by simp;omega);have q2:=ac.cellAt (λn:Nat=>Value.int .u32 (n:Int)) rfl m (by simp;omega);simp only[fK,jd]at R q2;have G:=ad (Q.set (λn:Nat=>Value.int .u32 (n:Int)) rfl d (by simp;omega) (fT (l.take k) d+1) (.int .u32 ((fT (l.take k) d:Int)+1)) σ);have U:((List.range 265).map (fT (l.take k))).set d (fT (l.take k) d+1)=(List.range 265).map (fT (l.take (k+1))):=by
     rw[Ax];refine iV λj _=>?_;rw[b7.out j];by_cases e:j=d;·subst e;rw[af rfl,af rfl]
     ·rw[ae e,ae (λh=>e h.symm),dq]
    rw[U]at G;have i3:(d:Int)<265:=ω;have i4:(0:Int)<=d:=ω;have c6:IntKind.u32.wrap ((fT (l.take k) d:Int)+1)=((fT (l.take k) d+1:Nat):Int):=(by rw[IntWalk.u32_in _ ω];omega);obtain⟨b9,bA⟩:=R;have V:(A.alloc (.cells #[N d,N le,N m,N fa] 286)).heap[A.heap.size]?=some (.cells #[N d,N le,N m,N fa] 286 (0,0)):=aB _ _ _ rfl;have p0:(A.alloc (.cells #[N d,N le,N m,N fa] 286)).cell? ⟨A.heap.size,0,none⟩=some (N d):=(by rw[aK V];rfl);have p2:(A.alloc (.cells #[N d,N le,N m,N fa] 286)).cell? ⟨A.heap.size,2,none⟩=some (N m):=(by rw[aK V];rfl);have ak:ai (λk=>k=o) (A.alloc (.cells #[N d,N le,N m,N fa] 286)) ((A.alloc (.cells #[N d,N le,N m,N fa] 286)).setCell ⟨o,d,none⟩ (.int .u32 ((fT (l.take k) d:Int)+1))):=a9 _ ⟨o,d,none⟩ _;have c7:w.heap.size<=o:=(Q.lt o rfl).1;have d6:w.heap.size<=z:=(ac.lt z rfl).1;have bc:=ai.below a7 ak a7.size (λi e=>by have X:i=o:=e;omega)
    have bd := ac.chg ak (fun k K e => by have X : k = o := e; have : z = k := by simpa [Value.ownBlock] using K
                                          omega)
    have bf:=ak.heap V (λe=>by have:=Q.ne_cells V δ;exact this (by rw[<- e];rfl));go_upto_region 8 with fail;generalize A.alloc (.cells #[N d,N le,N m,N fa] 286)=W3 at *;generalize A.heap.size=pb at *;go_upto_region 9 with fail;have bL:=G.out;have dE:(W3.setCell ⟨o,d,none⟩ (.int .u32 ((fT (l.take k) d:Int)+1))).cell? ⟨pb,0,none⟩=some (N d):=(by rw[aK bf];rfl);have dT:(W3.setCell ⟨o,d,none⟩ (.int .u32 ((fT (l.take k) d:Int)+1))).cell? ⟨pb,2,none⟩=some (N m):=(by rw[aK bf];rfl);clear ak bf V p0 p2 Q ac a7 b9 bA G U c6 b7 b8 c4;generalize W3.setCell ⟨o,d,none⟩ (.int .u32 ((fT (l.take k) d:Int)+1))=W8 at *;by_cases h0:t.len=0
    ·have c8:¬(256:Int)<d:=(by have:=cv.2 h0;omega);have Y:Ow W8 w.heap.size eV (.slice (some ⟨z,0,none⟩) 12 12) ((List.range 12).map (j8 (l.take (k+1)))):=(by rw[show j8 (l.take (k+1))=j8 (l.take k)from funext λj=>by rw[aj.out j,ae (λh=>h.1 h0),dq]];exact bd);clear aj bb;go_wp2;go_roundw;case rel=>exact⟨k+1,ω,γ,bL,Y,bc⟩
     case measure=>exact μ
    ·have c8:(256:Int)<d:=(by have:=c3 h0;omega);have q3:=bd.cellAt (λn:Nat=>Value.int .u32 (n:Int)) rfl m (by simp;omega);simp only[fK,jd]at q3;obtain⟨ec,ef⟩:=q3;have av:=bd.set (λn:Nat=>Value.int .u32 (n:Int)) rfl m (by simp;omega) (j8 (l.take k) m+1) (.int .u32 ((j8 (l.take k) m:Int)+1)) σ;have bT:((List.range 12).map (j8 (l.take k))).set m (j8 (l.take k) m+1)=(List.range 12).map (j8 (l.take (k+1))):=by
      rw[Ax];refine iV λj _=>?_;rw[aj.out j];by_cases e:j=m;·subst e;rw[af rfl,af ⟨h0,rfl⟩]
      ·rw[ae e,ae (λh=>e h.2.symm),dq]
     rw[bT]at av;have i5:(m:Int)<12:=ω;have i6:(0:Int)<=m:=ω;have I:ai (λk=>k=z) W8 (W8.setCell ⟨z,m,none⟩ (.int .u32 ((j8 (l.take k) m:Int)+1))):=a9 _ ⟨z,m,none⟩ _;have J:=ai.below bc I bc.size (λi e=>by have X:i=z:=e;omega)
     have bm := bL.chg I (fun k K e => by have X : k = z := e; have : o = k := by simpa [Value.ownBlock] using K
                                          omega)
     have av:=ad av;have J:=ad J;have bm:=ad bm;clear aj bb bT I;generalize j8 (l.take k) m=fm at *;have cA:IntKind.u32.wrap ((fm:Int)+1)=(fm:Int)+1:=IntWalk.u32_in _ ω;go_wp2;go_roundw;case rel=>exact⟨k+1,ω,γ,bm.out,av.out,J.out⟩
     case measure=>exact μ
   ·obtain rfl:k=l.length:=ω;have er:¬(l.length:Int)<l.length:=ω;rw[dY]at D F;have es:=wY l 256;have R:=D.cellAt (λn:Nat=>Value.int .u32 (n:Int)) rfl 256 σ;simp only[fK,jd]at R;obtain⟨b9,bA⟩:=R;have G:=D.set (λn:Nat=>Value.int .u32 (n:Int)) rfl 256 σ (fT l 256+1) (.int .u32 ((fT l 256:Int)+1)) σ;have U:((List.range 265).map (fT l)).set 256 (fT l 256+1)=gx l:=by
     rw[Ax];refine iV λj _=>?_;by_cases e:j=256;·subst e;rw[af rfl,af rfl]
     ·rw[ae e,ae e,dq]
    rw[U]at G;have c7:w.heap.size<=o:=(D.lt o rfl).1;have I:ai (λk=>k=o) wr (wr.setCell ⟨o,256,none⟩ (.int .u32 ((fT l 256:Int)+1))):=a9 _ ⟨o,256,none⟩ _;have J:=ai.below O I O.size (λi e=>by have X:i=o:=e;omega)
    have Y := F.chg I (fun k K e => by have X : k = o := e; have : z = k := by simpa [Value.ownBlock] using K
                                       omega)
    have G:=ad G;have J:=ad J;have Y:=ad Y;clear U I D F;generalize fT l 256=sm at *;have cA:IntKind.u32.wrap ((sm:Int)+1)=(sm:Int)+1:=IntWalk.u32_in _ ω;go_wp2;go_ret3;exact⟨_,_,rfl,G.out,Y.out,J.out⟩
def ed.chg{w w':World}{base g n:Nat}{a:Z0}{c:Nat->Value}{G:Nat->Prop}(h:ed w base g a n c)(d:ai G w w')(e:¬G g)(m:∀k,(c 0).ownBlock=some k->¬G k)(o:∀k,(c 1).ownBlock=some k->¬G k)
  (h4:∀l,1<=l->l<16->∀k,(c (34+l)).ownBlock=some k->¬G k):ed w' base g a n c:=
 ⟨h.arr.chg d e,h.own0.chg d m,h.own1.chg d o,h.first,h.many,λl a b=>(h.syms l a b).chg d (h4 l a b),h.apart,h.up⟩
def ed.fr{w w':World}{base g n:Nat}{a:Z0}{c:Nat->Value}(h:ed w base g a n c)(d:Fr w w'):ed w' base g a n c:=
 ⟨h.arr.fr d,h.own0.fr d,h.own1.fr d,h.first,h.many,λl a b=>(h.syms l a b).fr d,h.apart,h.up⟩
def mf(w:World)(b:Nat)(e:Value)(a:Z0)(g:Nat)(h:Value):Prop:=
 (bX a=false/\e=.pointer none)\/(bX a=true/\∃d c,e=.pointer (some ⟨d,0,none⟩)/\ed w b d a a.length c/\d≠g/\((c 0).ownBlock=none\/(c 0).ownBlock≠h.ownBlock))
def mf.fr{w w':World}{b g:Nat}{d e:Value}{a:Z0}(h:mf w b d a g e)(m:Fr w w'):mf w' b d a g e:=by
 rcases h with h | ⟨h,o,c,z,A,D,F⟩;·exact .inl h
 ·exact .inr ⟨h,o,c,z,A.fr m,D,F⟩
def mf.step{w w':World}{b base g:Nat}{T:TypeId}{rest:List Value}{J D K:Value}{a l:Z0}(h:mf w b J a g D)(z:cM w base g T rest D l)(F:T≠5/\T≠64/\T≠3)(L:bw g D K w w'):mf w' b J a g K:=by
 rcases h with h | ⟨h,U,c,V,o,M,O⟩;·exact .inl h
 ·have G:=z.2.1;refine .inr ⟨h,U,c,V,o.chg L.1 ?_ ?_ ?_ ?_,M,?_⟩
  ·rintro(e | e);·exact M e
   ·exact G.ne_cells o.arr δ e
  ·rintro k d (e | e);·exact o.own0.ne_cells z.1 F.1 (by rw[d,e])
   ·rcases O with m | m;·rw[m]at d;cases d
    ·exact m (d.trans e.symm)
  ·rintro k d (e | e);·exact o.own1.ne_cells z.1 F.2.1 (by rw[d,e])
   ·rcases kL o.own1 G δ with m | m;·rw[m]at d;cases d
    ·exact m (d.trans e.symm)
  ·rintro i Q R k d (e | e);·exact(o.syms i Q R).ne_cells z.1 F.2.2 (by rw[d,e])
   ·rcases kL (o.syms i Q R) G δ with m | m;·rw[m]at d;cases d
    ·exact m (d.trans e.symm)
  ·cases A:(c 0).ownBlock with
   | none=>exact .inl rfl
   | some k=>
    refine .inr λe=>?_;rcases L.2 k e.symm with m | m
    ·rcases O with I | I;·rw[I]at A;cases A
     ·exact I (A.trans m.symm)
    ·have:=(o.own0.lt k A).2;omega
def BH(a:Z0)(A s:Nat)(D:Value)(base g:Nat)(T:TypeId)(rest:List Value)(d:Value)(l:Z0)(w:World)(h:mf w A D a g d)(m:cM w base g T rest d l)
  (hn:a.length<=300) (h15:∀c∈a,c.toNat<=15) (hs:s<=1000000) (hl:l.length<=900000000) (hsz:base<=w.heap.size) :
  Calls Tryz.prog 153 #[D,.pointer (some ⟨g,0,none⟩),N s] w λe w'=>(∃x:Int,e=.returned (.int .i64 x))/\∃o,cM w' base g T rest o (l++cD a s)/\bw g d o w w':=by
 rcases h with⟨h,rfl⟩ | ⟨h,F,c,rfl,G,_,_⟩;·refine(X1 _ _ w).mono ?_;rintro e w' ⟨rfl,z⟩;refine⟨⟨7,rfl⟩,d,?_,(bw.refl g d w).frR z⟩;have e:cD a s=[]:=(by unfold cD;rw[h];rfl);rw[e,dg];exact⟨z.heap m.1,m.2.1.fr z,m.2.2⟩
 ·refine(X3 a A F a.length s c base g T rest d l w G m hn h15 h hs hl hsz).mono ?_;rintro e w' ⟨rfl,o,I,J⟩;refine⟨⟨_,rfl⟩,o,?_,J⟩;unfold cD;rw[h];exact I
