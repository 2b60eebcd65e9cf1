/- Parts of the proof of ArchEnds: Y3 Y4 Y6. -/
import Derived.Test.YtfpijnhhdfoohaaGreatDoorM23
import Derived.Test.YtfpijnhhdfoohaaGreatDoorM25
import Derived.Test.YtfpijnhhdfoohaaGreatDoorM27
import Derived.Test.YtfpijnhhdfoohaaGreatDoorM21
set_option linter.unusedVariables false
set_option linter.unusedSectionVars false
set_option linter.unusedSimpArgs false
set_option maxHeartbeats 8000000
set_option maxRecDepth 100000
namespace Go.Proofs.YtfpijnhhdfoohaaGreatDoor
open Go.RowKit Go.Fk
theorem Ez (t : aW) (w : World) (hm : ez t = true) :
    Calls Tryz.prog 177 #[lX t] w fun e w'=>e=.returned (.tuple #[Ko (aV t),.int .i64 0])/\Fr w w':=by
  have Q:=ad (fun W=>EF t W hm);have aj:=ad (fun v W B h2=>Pn v W B h2);have ap:Fr w (w.alloc (.cells #[.int .u8 (t.lit.toNat:Int),N t.len,N t.dist] 212)):=(Fr.refl w).alloc _;have av:(w.alloc (.cells #[.int .u8 (t.lit.toNat:Int),N t.len,N t.dist] 212)).heap[w.heap.size]?=some (.cells #[.int .u8 (t.lit.toNat:Int),N t.len,N t.dist] 212 (0,0)):=a9 _ _ _ rfl;have R:Fr (w.alloc (.cells #[.int .u8 (t.lit.toNat:Int),N t.len,N t.dist] 212)) ((w.alloc (.cells #[.int .u8 (t.lit.toNat:Int),N t.len,N t.dist] 212)).alloc (.cells #[N 0,N 0,N 0,N 0] 276)):=(Fr.refl _).alloc _;have a3:((w.alloc (.cells #[.int .u8 (t.lit.toNat:Int),N t.len,N t.dist] 212)).alloc (.cells #[N 0,N 0,N 0,N 0] 276)).heap[w.heap.size+1]?=some (.cells #[N 0,N 0,N 0,N 0] 276 (0,0)):=a9 _ _ (w.heap.size+1) (by rw [eg]);have I:=R.heap av;have a4:=ap.trans R;have K:aV t=if t.len=0 then⟨t.lit.toNat,0,0,0⟩else⟨257+gK (t.len - 2),jE (t.len - 2),gK t.dist,jE t.dist⟩:=rfl;have U:=ad (qL t hm);have bu:=t.lit.toNat_lt;clear ap R av;go_enter Tryz.func177, Tryz.ntmps177;go_upto_region 1 with fail;generalize (w.alloc (.cells #[.int .u8 (t.lit.toNat:Int),N t.len,N t.dist] 212)).alloc (.cells #[N 0,N 0,N 0,N 0] 276)=W1 at *;have HT:=ad I;have HP:=ad a3;have HF:=ad a4;have V:=ad (Q.out W1);have e0:=af I 0 rfl;have e1:=af I 1 rfl;have e2:=af I 2 rfl;have HE:=ad (fun W (h:Fr W1 W)=>And.intro (h.cell e0) (And.intro (h.cell e1) (h.cell e2)));clear I a3 a4;go_wp2_with fail;refine V.out.mono ?_;rintro e D ⟨rfl,F⟩;obtain⟨a0,a1,a2⟩:=HE.out D F;clear e0 e1 e2;by_cases J:t.len=0
  · have X:=ad (K.trans (ag J));have m:=F.heap HP.out;rw [J]at a1;generalize t.lit.toNat=G at *;have b0:=af m 0 rfl;have b1:=af m 1 rfl;have b2:=af m 2 rfl;have b3:=af m 3 rfl;have f0:=al m 0;have f1:=al m 1;have f2:=al m 2;have f3:=al m 3;have L:=ad (HF.out.trans F);have Y:=ad m;have cq:IntKind.i64.wrap (G:Int)=G:=aw _ (by omega);clear K U m V Q;go_wp2_with fail
    have B:((((D.setCell ⟨w.heap.size+1,0,none⟩ (N G)).setCell ⟨w.heap.size+1,1,none⟩ (N 0)).setCell ⟨w.heap.size+1,2,none⟩ (N 0)).setCell ⟨w.heap.size+1,3,none⟩ (N 0)).heap[w.heap.size+1]?=some (.cells #[N G,N 0,N 0,N 0] 276 (0,0)):=
      a8 (a8 (a8 (a8 Y.out 0 _) 1 _) 2 _) 3 _
    have Z:ah (fun k=>k=w.heap.size+1) D ((((D.setCell ⟨w.heap.size+1,0,none⟩ (N G)).setCell ⟨w.heap.size+1,1,none⟩ (N 0)).setCell ⟨w.heap.size+1,2,none⟩ (N 0)).setCell ⟨w.heap.size+1,3,none⟩ (N 0)):=
      (((ao D ⟨w.heap.size+1,0,none⟩ _).trans (ao _ ⟨w.heap.size+1,1,none⟩ _) (fun _ _ h=>h)).trans (ao _ ⟨w.heap.size+1,2,none⟩ _) (fun _ _ h=>h)).trans (ao _ ⟨w.heap.size+1,3,none⟩ _) (fun _ _ h=>h)
    have aa:Fr w _:=ah.below L.out Z L.out.size (fun k hk=>by omega);exact aL (v:=.tuple #[.agg #[N G,N 0,N 0,N 0],.int .i64 0]) (n6 Tryz.results177 _ _ (w.heap.size+1) 276 _ (0,0) _ _ rfl rfl B Tryz.underlying276 rfl (by kernel_rfl)) rfl ⟨by rw [X.out],aa⟩
  · obtain⟨_,B,h2,h3,h4⟩:=U.out J;have X:=ad (K.trans (ae J));have bR:=ad (aj.out (t.len - 2) D (by omega) (by omega));have bT:=ad (fun W=>aj.out t.dist W (by omega) (by omega));have c1:=uJ (t.len - 2) 8 (by omega) (by have:(2:Nat) ^ 8=256:=rfl;omega);generalize hc:gK (t.len - 2)=c at *;generalize hr:jE (t.len - 2)=r at *;generalize hd:gK t.dist=d at *;generalize hq:jE t.dist=q at *;clear hc hr hd hq bu;generalize ch:t.len=M at *;generalize cj:t.dist=td at *;have n1:¬(M:Int)=0:=(by omega);have n2:((M:Int) == 0)=false:=(by simp [J]);have n3:(M:Int) - 2=((M - 2:Nat):Int):=(by omega);have L:=ad (HF.out.trans F);have m:=ad (F.heap HP.out);clear K U V Q ch cj;go_wp2_with fail;refine bR.out.mono ?_;rintro e W3 ⟨rfl,ab⟩;obtain⟨c5,c6,c7⟩:=HE.out W3 (F.trans ab);have ck:=ad (L.out.trans ab);have cl:=ad (ab.heap m.out);have cm:=ad (bT.out W3);clear a0 a1 a2;go_wp2_with fail;refine cm.out.mono ?_;rintro e O ⟨rfl,bk⟩;have o:=bk.heap cl.out;have bl:=ad (ck.out.trans bk);have b0:=af o 0 rfl;have b1:=af o 1 rfl;have b2:=af o 2 rfl;have b3:=af o 3 rfl;have f0:=al o 0;have f1:=al o 1;have f2:=al o 2;have f3:=al o 3;have Y:=ad o;obtain⟨z,bm⟩:∃ z,z=257+c:=⟨_,rfl⟩;have c8:(257:Int)+c=(z:Int):=(by omega);have cn:=ad bm;clear bm;clear o;go_wp2_with fail
    have B:((((O.setCell ⟨w.heap.size+1,0,none⟩ (N z)).setCell ⟨w.heap.size+1,1,none⟩ (N r)).setCell ⟨w.heap.size+1,2,none⟩ (N d)).setCell ⟨w.heap.size+1,3,none⟩ (N q)).heap[w.heap.size+1]?=some (.cells #[N z,N r,N d,N q] 276 (0,0)):=
      a8 (a8 (a8 (a8 Y.out 0 _) 1 _) 2 _) 3 _
    have Z:ah (fun k=>k=w.heap.size+1) O ((((O.setCell ⟨w.heap.size+1,0,none⟩ (N z)).setCell ⟨w.heap.size+1,1,none⟩ (N r)).setCell ⟨w.heap.size+1,2,none⟩ (N d)).setCell ⟨w.heap.size+1,3,none⟩ (N q)):=
      (((ao O ⟨w.heap.size+1,0,none⟩ _).trans (ao _ ⟨w.heap.size+1,1,none⟩ _) (fun _ _ h=>h)).trans (ao _ ⟨w.heap.size+1,2,none⟩ _) (fun _ _ h=>h)).trans (ao _ ⟨w.heap.size+1,3,none⟩ _) (fun _ _ h=>h)
    have aa:Fr w _:=ah.below bl.out Z bl.out.size (fun k hk=>by omega);exact aL (v:=.tuple #[.agg #[N z,N r,N d,N q],.int .i64 0]) (n6 Tryz.results177 _ _ (w.heap.size+1) 276 _ (0,0) _ _ rfl rfl B Tryz.underlying276 rfl (by kernel_rfl)) rfl ⟨by rw [X.out,cn.out],aa⟩
theorem wV{α:Type}(n:Nat)(f:Nat->α)(i:Nat)(x:α):((List.range n).map f).set i x=(List.range n).map (fun j=>if j=i then x else f j):=by
 apply lj;· simp
 · intro j m d;simp only [eN,mD]at d;simp only [List.getElem_set,jY,mE];by_cases e:j=i;· subst e;simp
   · rw [ae (fun h=>e h.symm),ae e]
theorem wg{w:World}{v:Value}{l:List aW}(h:ai w jp v l)(k:Nat)(m:k<l.length) :
  ∃ b d o,v=.slice (some ⟨b,d,none⟩) l.length o/\w.cell? ⟨b,d+k*3,none⟩=some (.int .u8 (l[k].lit.toNat:Int))/\w.cell? ⟨b,d+k*3+1,none⟩=some (N l[k].len)/\w.cell? ⟨b,d+k*3+2,none⟩=some (N l[k].dist):=by
 obtain⟨b,d,o,rfl,z,A,q⟩:=h.cells (by intro e;simp [e]at m);exact⟨b,d,o,rfl,q k m 0 (by decide) _ rfl,q k m 1 (by decide) _ rfl,q k m 2 (by decide) _ rfl⟩
theorem S3 (v : Value) (l : List aW) (w : World) (hs : ai w jp v l) (hn : l.length ≤ 1000000) (hm : ∀ t ∈ l, ez t = true) :
    Calls Tryz.prog 136 #[v] w fun e K=>∃ u1 u2,e=.returned (.tuple #[u1,u2,.int .i64 0])/\Ow K w.heap.size eV u1 (iw l)/\Ow K w.heap.size eV u2 (jo l)/\Fr w K:=by
  have HS:=ad (fun W (h:Fr w W)=>hs.fr h);obtain⟨a0,cL,rfl,cN,ch,cR⟩:=hs.shape;unfold maxLen at ch;have cj:=ad (fun t W h=>Ez t W h);have m1:(Instr.makeSlice 199 (.int .i64 265) (.int .i64 265)).run Tryz.prog w.drew=.ok (.slice (some ⟨w.heap.size,0,none⟩) 265 265) (w.drew.alloc (.cells (madeCells (eV:au Tryz.prog Nat).z.cells (265*(eV:au Tryz.prog Nat).k)) (eV:au Tryz.prog Nat).e)):=sb (eV:au Tryz.prog Nat) 199 Tryz.underlying199 .i64 .i64 265 (by omega) w.drew;have m2:(Instr.makeSlice 199 (.int .i64 12) (.int .i64 12)).run Tryz.prog w.drew=.ok (.slice (some ⟨w.heap.size,0,none⟩) 12 12) (w.drew.alloc (.cells (madeCells (eV:au Tryz.prog Nat).z.cells (12*(eV:au Tryz.prog Nat).k)) (eV:au Tryz.prog Nat).e)):=sb (eV:au Tryz.prog Nat) 199 Tryz.underlying199 .i64 .i64 12 (by omega) w.drew;have m3:(Instr.makeSlice 199 (.int .i64 12) (.int .i64 12)).run Tryz.prog (w.alloc (.cells (madeCells (eV:au Tryz.prog Nat).z.cells (265*(eV:au Tryz.prog Nat).k)) (eV:au Tryz.prog Nat).e)).drew=.ok (.slice (some ⟨w.heap.size+1,0,none⟩) 12 12) ((w.alloc (.cells (madeCells (eV:au Tryz.prog Nat).z.cells (265*(eV:au Tryz.prog Nat).k)) (eV:au Tryz.prog Nat).e)).drew.alloc (.cells (madeCells (eV:au Tryz.prog Nat).z.cells (12*(eV:au Tryz.prog Nat).k)) (eV:au Tryz.prog Nat).e)):=(by have:=sb (eV:au Tryz.prog Nat) 199 Tryz.underlying199 .i64 .i64 12 (by omega) (w.alloc (.cells (madeCells (eV:au Tryz.prog Nat).z.cells (265*(eV:au Tryz.prog Nat).k)) (eV:au Tryz.prog Nat).e)).drew;rwa [show ∀ (W:World),W.drew.heap=W.heap from fun _=>rfl,eg]at this);have m4:(Instr.makeSlice 199 (.int .i64 265) (.int .i64 265)).run Tryz.prog (w.alloc (.cells (madeCells (eV:au Tryz.prog Nat).z.cells (12*(eV:au Tryz.prog Nat).k)) (eV:au Tryz.prog Nat).e)).drew=.ok (.slice (some ⟨w.heap.size+1,0,none⟩) 265 265) ((w.alloc (.cells (madeCells (eV:au Tryz.prog Nat).z.cells (12*(eV:au Tryz.prog Nat).k)) (eV:au Tryz.prog Nat).e)).drew.alloc (.cells (madeCells (eV:au Tryz.prog Nat).z.cells (265*(eV:au Tryz.prog Nat).k)) (eV:au Tryz.prog Nat).e)):=(by have:=sb (eV:au Tryz.prog Nat) 199 Tryz.underlying199 .i64 .i64 265 (by omega) (w.alloc (.cells (madeCells (eV:au Tryz.prog Nat).z.cells (12*(eV:au Tryz.prog Nat).k)) (eV:au Tryz.prog Nat).e)).drew;rwa [show ∀ (W:World),W.drew.heap=W.heap from fun _=>rfl,eg]at this);have L:=fun W (hb:w.heap.size<=W.heap.size)=>xN (base:=w.heap.size) (eV:au Tryz.prog Nat) 265 (by omega) W hb;have M:=fun W (hb:w.heap.size<=W.heap.size)=>xN (base:=w.heap.size) (eV:au Tryz.prog Nat) 12 (by omega) W hb;have L:=ad L;have M:=ad M;generalize cp:(Obj.cells (madeCells (eV:au Tryz.prog Nat).z.cells (265*(eV:au Tryz.prog Nat).k)) (eV:au Tryz.prog Nat).e)=Z at *;generalize cq:(Obj.cells (madeCells (eV:au Tryz.prog Nat).z.cells (12*(eV:au Tryz.prog Nat).k)) (eV:au Tryz.prog Nat).e)=A2 at *;clear hs cp cq;go_enter Tryz.func136, Tryz.ntmps136;go_upto_region 1 with fail;go_cut [5,6]from 11 to 12 (fun v1 v2 wx=>∃ o q,v1=.slice (some ⟨o,0,none⟩) 265 265/\v2=.slice (some ⟨q,0,none⟩) 12 12/\o≠q/\Ow wx w.heap.size eV v1 (List.replicate 265 0)/\Ow wx w.heap.size eV v2 (List.replicate 12 0)/\Fr w wx)
  case first=>
    go_region;all_goals go_wp2_with fail
    all_goals go_meet
    · exact⟨w.heap.size,w.heap.size+1,rfl,rfl,by omega,((L.out w (am _)).fr ((Fr.refl _).alloc A2)).drew,(by have:=(M.out (w.alloc Z) (by rw [eg];omega)).drew;rwa [eg]at this),(((Fr.refl w).alloc Z).alloc A2).drew⟩
    · exact⟨w.heap.size+1,w.heap.size,rfl,rfl,by omega,(by have:=(L.out (w.alloc A2) (by rw [eg];omega)).drew;rwa [eg]at this),((M.out w (am _)).fr ((Fr.refl _).alloc Z)).drew,(((Fr.refl w).alloc A2).alloc Z).drew⟩
  case rest=>
    obtain⟨o,q,rfl,rfl,cT,A,B,b0⟩:=hcut;clear m1 m2 m3 m4 L M;go_wp2_with fail;go_loopw [15] (fun iv wr=>∃ k:Nat,k<=l.length/\iv=N k/\Ow wr w.heap.size eV (.slice (some ⟨o,0,none⟩) 265 265) ((List.range 265).map (fg (l.take k)))/\Ow wr w.heap.size eV (.slice (some ⟨q,0,none⟩) 12 12) ((List.range 12).map (iU (l.take k)))/\Fr w wr) (fun iv _=>l.length - (intOf iv).toNat);case atStart=>exact⟨0,an _,rfl,by rw [ld];exact A,by rw [ld];exact B,b0⟩
    case round=>
      clear A B b0;obtain⟨k,J,rfl,A,B,O⟩:=hrel;by_cases a5:k<l.length
      · obtain⟨b,da,dc,hv,c0,c1,c2⟩:=wg (HS.out wr O) k a5;cases hv;have b1:=hm _ (bX a5);have b2:=gy a5;have b3:Hid (∀ W,Calls Tryz.prog 177 #[lX l[k]] W fun e K=>e=.returned (.tuple #[.agg #[N (aV l[k]).sym,N (aV l[k]).len,N (aV l[k]).dist,N (aV l[k]).far],.int .i64 0])/\Fr W K):=fun W=>cj.out l[k] W b1;have cv:=xg l[k] b1;generalize l[k]=t at *;have i1:(0:Int)<=k:=(by omega);have i2:(k:Int)<l.length:=(by omega);go_wp2_with fail;refine(b3.out _).mono ?_;rintro e z ⟨rfl,b4⟩;have ab:Fr wr z:=((Fr.refl wr).alloc _).trans b4;have a6:Fr z (z.alloc (.cells #[N (aV t).sym,N (aV t).len,N (aV t).dist,N (aV t).far] 276)):=(Fr.refl z).alloc _;have Q:=(A.fr ab).fr a6;have ac:=(B.fr ab).fr a6;have a7:=(O.trans ab).trans a6;have b5:(l.take k).length<=1000000:=(by rw [aG];omega);have aC:=Hs (l.take k) t;have ba:=NO (l.take k) t;rw [<- b2]at aC ba;have b6:=fun j=>wj (l.take k) j;have b7:=fun j=>Dd (l.take k) j;obtain⟨ds,dv,d0,d1,c3,c4⟩:=cv;have b8:=ad aC;have aj:=ad ba;have b9:=ad b6;have bb:=ad b7;clear aC ba b6 b7 b4 ab A B O c0 c1 c2 b3 b2;generalize d2:(aV t).sym=d at *;generalize d3:(aV t).dist=m at *;generalize (aV t).len=le at *;generalize (aV t).far=F at *;have c5:fg (l.take k) d<=1000000:=az (b9.out d) b5;have d4:iU (l.take k) m<=1000000:=az (bb.out m) b5;have R:=Q.cellAt (fun n:Nat=>Value.int .u32 (n:Int)) rfl d (by simp;omega);have q2:=ac.cellAt (fun n:Nat=>Value.int .u32 (n:Int)) rfl m (by simp;omega);simp only [jY,mE]at R q2;have D:=ad (Q.set (fun n:Nat=>Value.int .u32 (n:Int)) rfl d (by simp;omega) (fg (l.take k) d+1) (.int .u32 ((fg (l.take k) d:Int)+1)) (by simp));have U:((List.range 265).map (fg (l.take k))).set d (fg (l.take k) d+1)=(List.range 265).map (fg (l.take (k+1))):=by
          rw [wV];refine jA fun j _=>?_;rw [b8.out j];by_cases e:j=d;· subst e;rw [ag rfl,ag rfl]
          · rw [ae e,ae (fun h=>e h.symm),et]
        rw [U]at D;have i3:(d:Int)<265:=(by omega);have i4:(0:Int)<=d:=(by omega);have c7:IntKind.u32.wrap ((fg (l.take k) d:Int)+1)=((fg (l.take k) d+1:Nat):Int):=(by rw [IntWalk.u32_in _ (by omega)];omega);obtain⟨bA,bB⟩:=R;have V:(z.alloc (.cells #[N d,N le,N m,N F] 276)).heap[z.heap.size]?=some (.cells #[N d,N le,N m,N F] 276 (0,0)):=a9 _ _ _ rfl;have p0:(z.alloc (.cells #[N d,N le,N m,N F] 276)).cell? ⟨z.heap.size,0,none⟩=some (N d):=(by rw [aA V];rfl);have p2:(z.alloc (.cells #[N d,N le,N m,N F] 276)).cell? ⟨z.heap.size,2,none⟩=some (N m):=(by rw [aA V];rfl);have ak:ah (fun k=>k=o) (z.alloc (.cells #[N d,N le,N m,N F] 276)) ((z.alloc (.cells #[N d,N le,N m,N F] 276)).setCell ⟨o,d,none⟩ (.int .u32 ((fg (l.take k) d:Int)+1))):=ao _ ⟨o,d,none⟩ _;have cA:w.heap.size<=o:=(Q.lt o rfl).1;have d7:w.heap.size<=q:=(ac.lt q rfl).1;have bc:=ah.below a7 ak a7.size (fun i e=>by have X:i=o:=e;omega)
        have bd := ac.chg ak (fun k J e => by have X : k = o := e; have : q = k := by simpa [Value.ownBlock] using J
                                              omega)
        have bf:=ak.heap V (fun e=>by have:=Q.ne_cells V (by decide);exact this (by rw [<- e];rfl));go_upto_region 8 with fail;generalize z.alloc (.cells #[N d,N le,N m,N F] 276)=W3 at *;generalize z.heap.size=pb at *;go_upto_region 9 with fail;have bR:=D.out;have d8:(W3.setCell ⟨o,d,none⟩ (.int .u32 ((fg (l.take k) d:Int)+1))).cell? ⟨pb,0,none⟩=some (N d):=(by rw [aA bf];rfl);have d9:(W3.setCell ⟨o,d,none⟩ (.int .u32 ((fg (l.take k) d:Int)+1))).cell? ⟨pb,2,none⟩=some (N m):=(by rw [aA bf];rfl);clear ak bf V p0 p2 Q ac a7 bA bB D U c7 b8 b9 c5;generalize W3.setCell ⟨o,d,none⟩ (.int .u32 ((fg (l.take k) d:Int)+1))=W8 at *;by_cases h0:t.len=0
        · have cB:¬(256:Int)<d:=(by have:=c3.2 h0;omega);have Y:Ow W8 w.heap.size eV (.slice (some ⟨q,0,none⟩) 12 12) ((List.range 12).map (iU (l.take (k+1)))):=(by rw [show iU (l.take (k+1))=iU (l.take k)from funext fun j=>by rw [aj.out j,ae (fun h=>h.1 h0),et]];exact bd);clear aj bb;go_wp2_with fail;go_roundw;case rel=>exact⟨k+1,by omega,by go_num,bR,Y,bc⟩
          case measure=>simp [intOf];omega
        · have cB:(256:Int)<d:=(by have:=c4 h0;omega);have q3:=bd.cellAt (fun n:Nat=>Value.int .u32 (n:Int)) rfl m (by simp;omega);simp only [jY,mE]at q3;obtain⟨dE,dT⟩:=q3;have av:=bd.set (fun n:Nat=>Value.int .u32 (n:Int)) rfl m (by simp;omega) (iU (l.take k) m+1) (.int .u32 ((iU (l.take k) m:Int)+1)) (by simp);have ca:((List.range 12).map (iU (l.take k))).set m (iU (l.take k) m+1)=(List.range 12).map (iU (l.take (k+1))):=by
            rw [wV];refine jA fun j _=>?_;rw [aj.out j];by_cases e:j=m;· subst e;rw [ag rfl,ag ⟨h0,rfl⟩]
            · rw [ae e,ae (fun h=>e h.2.symm),et]
          rw [ca]at av;have i5:(m:Int)<12:=(by omega);have i6:(0:Int)<=m:=(by omega);have G:ah (fun k=>k=q) W8 (W8.setCell ⟨q,m,none⟩ (.int .u32 ((iU (l.take k) m:Int)+1))):=ao _ ⟨q,m,none⟩ _;have I:=ah.below bc G bc.size (fun i e=>by have X:i=q:=e;omega)
          have bm := bR.chg G (fun k J e => by have X : k = q := e; have : o = k := by simpa [Value.ownBlock] using J
                                               omega)
          have av:=ad av;have I:=ad I;have bm:=ad bm;clear aj bb ca G;generalize iU (l.take k) m=fm at *;have cE:IntKind.u32.wrap ((fm:Int)+1)=(fm:Int)+1:=IntWalk.u32_in _ (by omega);go_wp2_with fail;go_roundw;case rel=>exact⟨k+1,by omega,by go_num,bm.out,av.out,I.out⟩
          case measure=>simp [intOf];omega
      · obtain rfl:k=l.length:=(by omega);have eq:¬(l.length:Int)<l.length:=(by omega);rw [dO]at A B;have er:=wj l 256;have R:=A.cellAt (fun n:Nat=>Value.int .u32 (n:Int)) rfl 256 (by simp);simp only [jY,mE]at R;obtain⟨bA,bB⟩:=R;have D:=A.set (fun n:Nat=>Value.int .u32 (n:Int)) rfl 256 (by simp) (fg l 256+1) (.int .u32 ((fg l 256:Int)+1)) (by simp);have U:((List.range 265).map (fg l)).set 256 (fg l 256+1)=iw l:=by
          rw [wV];refine jA fun j _=>?_;by_cases e:j=256;· subst e;rw [ag rfl,ag rfl]
          · rw [ae e,ae e,et]
        rw [U]at D;have cA:w.heap.size<=o:=(A.lt o rfl).1;have G:ah (fun k=>k=o) wr (wr.setCell ⟨o,256,none⟩ (.int .u32 ((fg l 256:Int)+1))):=ao _ ⟨o,256,none⟩ _;have I:=ah.below O G O.size (fun i e=>by have X:i=o:=e;omega)
        have Y := B.chg G (fun k J e => by have X : k = o := e; have : q = k := by simpa [Value.ownBlock] using J
                                           omega)
        have D:=ad D;have I:=ad I;have Y:=ad Y;clear U G A B;generalize fg l 256=sm at *;have cE:IntKind.u32.wrap ((sm:Int)+1)=(sm:Int)+1:=IntWalk.u32_in _ (by omega);go_wp2_with fail;go_ret3;exact⟨_,_,rfl,D.out,Y.out,I.out⟩
theorem df.chg{w e:World}{base g n:Nat}{a:List UInt8}{c:Nat->Value}{G:Nat->Prop}(h:df w base g a n c)(d:ah G w e)(m:¬G g)(o:∀ k,(c 0).ownBlock=some k->¬G k)(q:∀ k,(c 1).ownBlock=some k->¬G k)
  (h4:∀ l,1<=l->l<16->∀ k,(c (34+l)).ownBlock=some k->¬G k):df e base g a n c:=
 ⟨h.arr.chg d m,h.own0.chg d o,h.own1.chg d q,h.first,h.many,fun l a b=>(h.syms l a b).chg d (h4 l a b),h.apart,h.up⟩
theorem df.fr{w e:World}{base g n:Nat}{a:List UInt8}{c:Nat->Value}(h:df w base g a n c)(d:Fr w e):df e base g a n c:=
 ⟨h.arr.fr d,h.own0.fr d,h.own1.fr d,h.first,h.many,fun l a b=>(h.syms l a b).fr d,h.apart,h.up⟩
def kC(w:World)(b:Nat)(e:Value)(a:List UInt8)(g:Nat)(h:Value):Prop:=
 (cI a=false/\e=.pointer none)\/(cI a=true/\∃ d c,e=.pointer (some ⟨d,0,none⟩)/\df w b d a a.length c/\d≠g/\((c 0).ownBlock=none\/(c 0).ownBlock≠h.ownBlock))
theorem kC.fr{w d:World}{b g:Nat}{e m:Value}{a:List UInt8}(h:kC w b e a g m)(o:Fr w d):kC d b e a g m:=by
 rcases h with h | ⟨h,q,c,z,A,B,D⟩;· exact .inl h
 · exact .inr ⟨h,q,c,z,A.fr o,B,D⟩
theorem kC.step{w G:World}{b base g:Nat}{T:TypeId}{rest:List Value}{I A J:Value}{a l:List UInt8}(h:kC w b I a g A)(q:dd w base g T rest A l)(B:T≠5/\T≠235/\T≠3)(K:br g A J w G):kC G b I a g J:=by
 rcases h with h | ⟨h,R,c,U,o,L,M⟩;· exact .inl h
 · have D:=q.2.1;refine .inr ⟨h,R,c,U,o.chg K.1 ?_ ?_ ?_ ?_,L,?_⟩
   · rintro(e | e);· exact L e
     · exact D.ne_cells o.arr (by decide) e
   · rintro k d (e | e);· exact o.own0.ne_cells q.1 B.1 (by rw [d,e])
     · rcases M with m | m;· rw [m]at d;cases d
       · exact m (d.trans e.symm)
   · rintro k d (e | e);· exact o.own1.ne_cells q.1 B.2.1 (by rw [d,e])
     · rcases jg o.own1 D (by decide)with m | m;· rw [m]at d;cases d
       · exact m (d.trans e.symm)
   · rintro i O Q k d (e | e);· exact(o.syms i O Q).ne_cells q.1 B.2.2 (by rw [d,e])
     · rcases jg (o.syms i O Q) D (by decide)with m | m;· rw [m]at d;cases d
       · exact m (d.trans e.symm)
   · cases z:(c 0).ownBlock with
     | none=>exact .inl rfl
     | some k=>
      refine .inr fun e=>?_;rcases K.2 k e.symm with m | m
      · rcases M with F | F;· rw [F]at z;cases z
        · exact F (z.trans m.symm)
      · have:=(o.own0.lt k z).2;omega
theorem yB(a:List UInt8)(A s:Nat)(B:Value)(base g:Nat)(T:TypeId)(rest:List Value)(d:Value)(l:List UInt8)(w:World)(h:kC w A B a g d)(m:dd w base g T rest d l)
  (hn:a.length<=300) (h15:∀ c∈a,c.toNat<=15) (hs:s<=1000000) (hl:l.length<=900000000) (hsz:base<=w.heap.size) :
  Calls Tryz.prog 139 #[B,.pointer (some ⟨g,0,none⟩),N s] w fun e o=>(∃ x:Int,e=.returned (.int .i64 x))/\∃ q,dd o base g T rest q (l++fW a s)/\br g d q w o:=by
 rcases h with⟨h,rfl⟩ | ⟨h,D,c,rfl,F,_,_⟩;· refine(Sn _ _ w).mono ?_;rintro e o ⟨rfl,z⟩;refine⟨⟨7,rfl⟩,d,?_,(br.refl g d w).frR z⟩;have e:fW a s=[]:=(by unfold fW;rw [h];rfl);rw [e,gq];exact⟨z.heap m.1,m.2.1.fr z,m.2.2⟩
 · refine(So a A D a.length s c base g T rest d l w F m hn h15 h hs hl hsz).mono ?_;rintro e o ⟨rfl,q,G,I⟩;refine⟨⟨_,rfl⟩,q,?_,I⟩;unfold fW;rw [h];exact G
end Go.Proofs.YtfpijnhhdfoohaaGreatDoor
