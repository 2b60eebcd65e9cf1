/- Parts of the proof of ArchEnds: Cu Cv Cw Cx Cy Cz Cza Czb Czc Czd. -/
import Derived.Test.YtfpijnhhdfoohaaGreatDoorM39
import Derived.Test.YtfpijnhhdfoohaaGreatDoorM41
import Derived.Test.YtfpijnhhdfoohaaGreatDoorM19
import Derived.Test.YtfpijnhhdfoohaaGreatDoorM10
import Derived.Deep.RegionHeldLaw
import Derived.BigQuiet
import Derived.Test.YtfpijnhhdfoohaaGreatDoorM12
import Derived.Test.YtfpijnhhdfoohaaGreatDoorM36
set_option linter.unusedVariables false
set_option linter.unusedSectionVars false
set_option linter.unusedSimpArgs false
set_option maxHeartbeats 8000000
set_option maxRecDepth 100000
namespace Go.Proofs.YtfpijnhhdfoohaaGreatDoor
open Go.RowKit Go.Fk
theorem rS{P:Program}{o:Func}{p q:Tmp}{e:TypeId}(h:o.results=#[.cell p e,.tmp q])(tmps:Array Value)(w:World)(g:Nat)(t:TypeId)(m:Array Value)(z:Nat × Nat)(d:TypeDesc)(v:Value)
  (hp:tmps.getD p undef=.pointer (some ⟨g,0,none⟩)) (hq:tmps.getD q undef=v) (hg:w.heap[g]?=some (.cells m t z))
  (hu:P.underlying e=some d) (hd:(match d with | .struct _ | .array _ _=>true | _=>false)=true) (hi:(P.info? e).map (·.size)=some m.size) :
  (results o tmps).run P w=.ok (.tuple #[.agg m,v]) w:=by
 have A:tmps[p]?.getD undef=.pointer (some ⟨g,0,none⟩):=by simpa using hp
 have B:tmps[q]?.getD undef=v:=by simpa using hq
 simp [results,h,A,B,asAddr,rq w g t e m z d hg hu hd hi]
abbrev iS:Array Value:=#[.slice none 0 0,.slice none 0 0]
theorem OC(b:List UInt8)(size n:Nat)(l:List Nat):∀ (i:Nat) (s:Cs) (t:List (List UInt8)),(∀ x∈t,x.length<=25)->(fq b size n l i s t).1.length<=t.length+l.length*size:=by
 induction l with
 | nil=>intro i s t _;show t.length<=_;omega
 | cons k r d=>
  intro i s t h;rw [fq];have e:=Dc (s.take b k).1 (min size (n - i*size)) 0 ⟨0,0⟩ t h;split
  · split;· have:=d (i+1) (s.take b k).2 _ e.1;rw [cd,iG];omega
    · exact an _
  · exact an _
theorem Ds(size:Nat)(b:List UInt8)(q:1<=size)(d:size<=64):(co size b).1.length<=100000000:=by
  have z:(dA b).1<=1048576:=by
    show Cs.val _ _<=_;unfold Cs.val;split;· rename_i h;exact(lH _ _ h.2).2.2
    · exact an _
  have e:=Ar b (((dA b).1+size - 1) / size) (dA b).2 [];have A:((dA b).1+size - 1) / size<=1048640:=az (lR _ _) (by omega);have hD:=OC b size (dA b).1 (nI size b).1 0 (nI size b).2 [] (fun x m=>(gz m).elim);have o:(nI size b).1.length<=1048640:=(by unfold nI;simp at e;omega);have B:(nI size b).1.length*size<=1048640*64:=bJ o d;unfold co;split;· show(fq b size (dA b).1 (nI size b).1 0 (nI size b).2 []).1.length<=_;simp at hD;omega
  · exact an _
theorem Hp(b:List UInt8)(k:Nat):∀ (s:Cs) (l:List Nat),s.at_<=b.length->(fR b k s l).2.at_<=b.length:=by
 induction k with
 | zero=>intro s l h;exact h
 | succ k d=>
  intro s l h;rw [fR];split;· exact d _ _ (Cs.int_le s b 2000 h)
  · exact h
theorem OF(b:List UInt8)(size n:Nat)(l:List Nat):∀ (i:Nat) (s:Cs) (t:List (List UInt8)),s.at_<=b.length->(fq b size n l i s t).2.1.at_<=b.length:=by
 induction l with
 | nil=>intro i s t h;exact h
 | cons k r e=>
  intro i s t h;rw [fq];have d:=Cs.take_le s b k h;split
  · split;· exact e _ _ _ d
    · exact d
  · exact d
theorem O9(size:Nat)(b:List UInt8):(co size b).2.1<=b.length:=by
 unfold co;split;· exact OF b size _ _ _ _ _ (Hp b _ _ _ (Cs.int_le ⟨0,0⟩ b 1048576 (an _)))
 · exact an _
theorem RL(size d:Nat)(h1:1<=size)(h2:size<=64)(hb:d<=20000)(v:Value)(b:List UInt8)(w:World)(X:ai w eB v b)(hl:b.length<=1000000) :
  Calls Tryz.prog 129 #[N size,N d,v] w fun e Y=>∃ tv lv,e=.returned (.tuple #[.agg #[tv,lv],.int .i64 ((gE size d b).2.2:Int)])/\Ow Y w.heap.size eS tv (gE size d b).1/\(∃ m,Ow Y w.heap.size pR lv m/\de Y w.heap.size eJ m (gE size d b).2.1)/\Fr w Y:=by
 have bk:=ad (fun W (hf:Fr w W)=>S0 size h1 h2 v b W (X.fr hf) hl);have bm:=Ds size b h1 h2;have cf:=O9 size b;have F:Hid (gE size d b=if(co size b).2.2=0 then(if(fp d (b.drop (co size b).2.1) (co size b).1.length 0 []).2=0 then((co size b).1,(fp d (b.drop (co size b).2.1) (co size b).1.length 0 []).1,0)else([],[],(fp d (b.drop (co size b).2.1) (co size b).1.length 0 []).2))else([],[],(co size b).2.2)):=rfl;have HS:=ad X;have b1:¬(d:Int)<0:=by omega
 have b2:¬(20000:Int)<d:=by omega
 have J:(Tryz.prog.info? 110).map (·.size)=some iS.size:=by kernel_rfl
 have bs:iS.all (·.oneCell')=true:=by rw [dP];rfl
 have ap:(w.alloc (.cells iS 110)).heap[w.heap.size]?=some (.cells iS 110 (0,0)):=a9 _ _ _ rfl;have av:Fr w (w.alloc (.cells iS 110)):=(Fr.refl w).alloc _;obtain⟨a0,c0,rfl,_⟩:=X.shape;clear X;have bu:=ad (bk.out _ av);generalize gE size d b=R at *;have HD:Hid (co size b=((co size b).1,(co size b).2.1,(co size b).2.2)):=rfl;generalize (co size b).1=T at *;generalize (co size b).2.1=K at *;generalize (co size b).2.2=er at *;clear bk HD;generalize cj:w.alloc (.cells iS 110)=W0 at *;have c1:=av.size;go_enter Tryz.func129, Tryz.ntmps129;go_upto_region 1 with fail;clear cj;go_wp2_with fail;refine(bu.out).mono ?_;rintro e G ⟨pv,rfl,bv,a3⟩;have Z:=bv.heap ap;have I:=av.trans bv;have c4:w.heap.size<W0.heap.size:=(aM.1 ap).1;clear bu ap;by_cases he:er=0
 · rw [ag he]at F;obtain⟨g,base,bx,rfl,c5,hD⟩:=a3 he;clear a3;have HD:=ad hD;have b0:=ad (fun W (h:Fr G W)=>S1 g base size T bx W (hD.fr h));have b3:=ad (fun W (h:Fr G W)=>S2 g base size T bx W (hD.fr h) bm);obtain⟨f1,f2,c8,b4⟩:=iy eB 22 Tryz.underlying22 HS.out K cf;have b5:(b.drop K).length<=1000000:=(by rw [aU];omega);have b6:=ad (fun W (h:Fr G W)=>Kc T.length d hb _ (b.drop K) W (b4.fr (I.trans h)) b5 bm);clear b4 b5 hD;generalize b.length - K=bl at *;generalize fp d (b.drop K) T.length 0 []=L at *;go_upto_region 6 with fail
   go_region_held3 (fun _ => True)
    (first | trivial | go_keep)
    ((first
     | (go_at_call 174; refine (b0.out _ (by first | exact Fr.refl _ | exact (Fr.refl _).drew)).mono ?_; rintro e M ⟨rfl, rfl⟩)
     | (go_at_call 173; refine (b6.out _ (by first | exact Fr.refl _ | exact (Fr.refl _).drew)).mono ?_; rintro e M ⟨lu, rfl, ⟨m, a5, b7⟩, b8⟩; obtain ⟨z, B, cl⟩ := a5.shape'; subst cl)))
   have a6:Fr G M:=(by first | exact b8 | exact((Fr.refl G).drew).trans b8);have a7:=a6.heap Z;have aa:=I.trans a6;have b9:=ad (b3.out M a6);have bA:=a5.rebase (show w.heap.size<=_ from I.size);have bB:=b7.rebase (show w.heap.size<=_ from I.size);clear b0 b6 b3 a5 b7 Z HD;by_cases ab:L.2=0;· rw [ag ab]at F;have aC:((L.2:Nat):Int)=0:=(by omega);rw [aC];clear ab aC;go_wp2_with fail;refine(b9.out).mono ?_;rintro e w4 ⟨tu,rfl,ac,aj⟩;obtain⟨o,q,rfl⟩:=ac.shape';have O:=aj.heap a7;have bL:=aa.trans aj;have cm:(#[Value.slice o T.length q,.slice z m.length B]:Array Value).all (·.oneCell')=true:=(by rw [dP];rfl);have cn:(Tryz.prog.info? 110).map (·.size)=some (#[Value.slice o T.length q,.slice z m.length B]:Array Value).size:=(by kernel_rfl);have Q:=cP w4 w.heap.size iS #[.slice o T.length q,.slice z m.length B] 110 (0,0) O;have U:=bC w4 w.heap.size #[.slice o T.length q,.slice z m.length B];have V:=ah.below bL U bL.size (fun k D=>by omega);have cp:Ow (w4.setRow w.heap.size #[.slice o T.length q,.slice z m.length B]) w.heap.size eS (.slice o T.length q) T:=(ac.rebase aa.size).chg U (fun k D e=>ac.ne_cells O (by decide) (by rw [D,show k=w.heap.size from e]));have ba:=bA.fr aj;have cq:=ba.chg U (fun k D e=>ba.ne_cells O (by decide) (by rw [D,show k=w.heap.size from e]));have ak:=bB.fr aj;have cs:de (w4.setRow w.heap.size #[.slice o T.length q,.slice z m.length B]) w.heap.size eJ m L.1:=⟨ak.1,fun i x1 x2=>(ak.2 i x1 x2).chg U (fun k D e=>(ak.2 i x1 x2).ne_cells O (by decide) (by rw [D,show k=w.heap.size from e]))⟩;clear b9 bA bB ba ak ac U;go_wp2_with (first | (refine bS rfl 110 (.tmp 6) (.tmp 47) rfl w.heap.size #[.slice o T.length q,.slice z m.length B] rfl rfl 110 _ O J rfl cm ?_));go_wp2_with fail;(try simp only [Exit.inBlock,Exit.then]);refine aL (v:=.tuple #[.agg #[.slice o T.length q,.slice z m.length B],.int .i64 0]) (rS Tryz.results129 _ _ w.heap.size 110 _ (0,0) _ _ rfl rfl Q Tryz.underlying110 rfl cn) rfl ?_;rw [F.out];exact⟨_,_,rfl,cp,⟨m,cq,cs⟩,V⟩
   · rw [ae ab]at F;have aC:¬(L.2:Int)=0:=(by omega);have Q:=cP M w.heap.size iS iS 110 (0,0) a7;have V:Fr w (M.setRow w.heap.size iS):=ah.below aa (bC _ _ _) aa.size (fun k D=>by omega);clear ab;go_wp2_with (first | (refine bS rfl 110 (.tmp 6) (.tmp 42) rfl w.heap.size iS rfl rfl 110 _ a7 J rfl bs ?_));go_wp2_with fail;(try simp only [Exit.inBlock,Exit.then]);refine aL (v:=.tuple #[.agg iS,.int .i64 (L.2:Int)]) (rS Tryz.results129 _ _ w.heap.size 110 _ (0,0) _ _ rfl rfl Q Tryz.underlying110 rfl J) rfl ?_;rw [F.out];exact⟨_,_,rfl,Ow.nil,⟨[],Ow.nil,⟨rfl,fun t h=>by simp at h⟩⟩,V⟩
 · rw [ae he]at F;have cE:¬(er:Int)=0:=(by omega);clear a3;go_wp2_with (first | (refine bS rfl 110 (.tmp 6) (.tmp 28) rfl w.heap.size iS rfl rfl 110 _ Z J rfl bs ?_));have Q:=cP G w.heap.size iS iS 110 (0,0) Z;have V:Fr w (G.setRow w.heap.size iS):=ah.below I (bC _ _ _) I.size (fun k D=>by omega);go_wp2_with fail;(try simp only [Exit.inBlock,Exit.then]);refine aL (v:=.tuple #[.agg iS,.int .i64 (er:Int)]) (rS Tryz.results129 _ _ w.heap.size 110 _ (0,0) _ _ rfl rfl Q Tryz.underlying110 rfl J) rfl ?_;rw [F.out];exact⟨_,_,rfl,Ow.nil,⟨[],Ow.nil,⟨rfl,fun t h=>by simp at h⟩⟩,V⟩
theorem Mz(q:List UInt8)(h:q.length=4):cK q<4294967296:=by
 have:=pN q;rw [h]at this;exact this
theorem N4 (v : Value) (b : List UInt8) (w : World) (F : ai w eB v b) (hl : b.length ≤ 1000000) (ht : bK w) :
    Calls Tryz.prog 124 #[v] w fun e K=>∃ X Y,e=.returned (.tuple #[X,Y,.int .i64 (jJ b:Int)])/\(jJ b=0->ai K eB X (fK b)/\Ow K w.heap.size eB Y (aZ b))/\Fr w K:=by
  obtain⟨a0,bu,rfl,bv,bx,_⟩:=F.shape;by_cases Z:b.length<4;· have hw:IntKind.i64.wrap ((b.length:Int) - 4)=(b.length:Int) - 4:=aw _ (by omega);have b0:(b.length:Int) - 4<0:=(by omega);have HE:Hid (jJ b=1):=(by show _=_;unfold jJ;rw [ag Z]);rw [HE.out];clear HE;go_enter Tryz.func124, Tryz.ntmps124;go_wp2_with fail;go_ret3;exact⟨_,_,rfl,fun h=>absurd h (by decide),Fr.refl w⟩
  · obtain⟨n,d⟩:∃ n,n=b.length - 4:=⟨_,rfl⟩;have hw:IntKind.i64.wrap ((b.length:Int) - 4)=(n:Int):=(by rw [aw _ (by omega)];omega);have b1:¬(n:Int)<0:=(by omega);have L:(b.drop n).length=4:=(by rw [aU];omega);have o:jJ b=if n<mp b then 1 else bP (pQ b):=(by unfold jJ;rw [ae Z,d]);have hD:pQ b=(b.take n).drop (n - mp b):=(by unfold pQ;rw [d]);have M:fK b=b.take (n - mp b):=(by unfold fK;rw [d]);have O:mp b=cK (((b.drop n).drop 0).take 4):=(by unfold mp;rw [<- d,List.drop_zero,eC (by omega)]);have b2:mp b<4294967296:=(by unfold mp;rw [<- d];exact Mz _ L);obtain⟨f1,f2,b5,Q⟩:=iy eB 22 Tryz.underlying22 F n (by omega);have G:=ad (m8 _ (b.drop n) w Q (by omega));have z:=ad (fun B W (hc:ar W 130 B w.heap.size (b.drop n) 0 0) (hb:w.heap.size<=W.heap.size)=>vf B w.heap.size 0 4 (b.drop n) W hc (by omega) (by omega) (by omega) (by omega) hb);rw [<- O]at z;generalize mp b=k at *;have b6:IntKind.i64.wrap (k:Int)=k:=aw _ (by omega);by_cases ab:n<k;· rw [ag ab]at o;rw [o];have t1:(n:Int)<k:=(by omega);clear o hD M O Q L d;generalize b.length - n=m at *;go_enter Tryz.func124, Tryz.ntmps124;go_wp2_with fail;refine(G.out).mono ?_;rintro e R ⟨B,rfl,hC,A,hB⟩;have I:=ad (z.out B R hC A.size);clear G z hC;go_wp2_with fail;refine(I.out).mono ?_;rintro e J ⟨rfl,ac,U⟩;have D:Fr w J:=((A.chg (fun b=>b=B)).trans U fun _ _ h=>h).fr (fun k hk e=>by omega);go_wp2_with fail;go_ret3;exact⟨_,_,rfl,fun h=>absurd h (by decide),D⟩
    · rw [ae ab]at o;obtain⟨r,hr⟩:∃ r,r=n - k:=⟨_,rfl⟩;have ak:aZ b=aS (pQ b):=rfl;rw [ak,o,hD,M];have t1:¬(n:Int)<k:=(by omega);have b7:IntKind.i64.wrap ((n:Int) - k)=(r:Int):=(by rw [aw _ (by omega)];omega);rw [<- hr];obtain⟨m1,m2,bA,ap⟩:=wD eB 22 Tryz.underlying22 F r n (by omega) (by omega);obtain⟨bB,av⟩:=gD eB 22 Tryz.underlying22 F r (by omega);have HT:=ad av;have a2:((b.take n).drop r).length<=1000000:=(by rw [aU,aG];omega);have a3:=ad (fun W (h:Fr w W)=>oQ _ ((b.take n).drop r) W (ap.fr h) a2 (ht.fr h));clear o hD M O Q L d ap av ak hr a2;generalize (b.take n).drop r=q at *;generalize b.length - n=m at *;generalize n - r=nr at *;go_enter Tryz.func124, Tryz.ntmps124;go_wp2_with fail;refine(G.out).mono ?_;rintro e R ⟨B,rfl,hC,A,hB⟩;have I:=ad (z.out B R hC A.size);clear G z hC;go_wp2_with fail;refine(I.out).mono ?_;rintro e J ⟨rfl,ac,U⟩;have D:Fr w J:=((A.chg (fun b=>b=B)).trans U fun _ _ h=>h).fr (fun k hk e=>by omega);have a4:=ad (a3.out J D);clear a3 I ac;go_wp2_with fail;refine(a4.out).mono ?_;rintro e w3 ⟨u,rfl,V,bf⟩;obtain⟨p4,z4,rfl⟩:=V.shape';have a5:=D.trans bf;have HO:=ad (V.rebase D.size);have bl:=ad (HT.out.fr a5);clear V HT a4;go_wp2_with fail;go_ret3;exact⟨_,_,rfl,fun _=>⟨bl.out,HO.out⟩,a5⟩
theorem Sk(v:Value)(l:List Nat)(x:Nat)(w:World)(m:ai w eJ v l)(Q:l.length<=1000000) :
  Calls Tryz.prog 200 #[v,N x] w fun e G=>(∃ k:Int,e=.returned (.int .i64 k)/\(0<=k↔x∈l))/\G=w:=by
 obtain⟨R,U,rfl,V,X,_⟩:=m.shape;have I:=ad m;clear m;go_enter Tryz.func200, Tryz.ntmps200;go_wp2_with fail;go_loop [8] (fun v=>∃ i:Nat,i<=l.length/\v=N i/\∀ j,∀ h:j<l.length,j<i->l[j]≠x) (fun J=>l.length - (intOf J).toNat);case atStart=>exact⟨0,an _,rfl,fun j h K=>absurd K (rt _)⟩
 case round=>
  obtain⟨i,Y,rfl,z⟩:=hrel;have A:=ad z;clear z;by_cases B:i<l.length
  · obtain⟨b,L,Z,D,F⟩:=I.out.cell1 N rfl i B;simp only [go]at D;obtain⟨rfl,_,rfl⟩:=D;have d0:w.cell? ⟨b,L+i,none⟩=some (N l[i]):=F;clear F;have M:(i:Int)<l.length:=(by omega);have i2:(0:Int)<=i:=(by omega);by_cases d:x=l[i];· have O:((x:Int)=(l[i]:Nat)):=(by omega);have o:Hid (x∈l):=(by rw [d];exact bX B);clear d;generalize l[i]=y at *;go_wp2_with fail;go_ret;exact⟨⟨_,rfl,⟨fun _=>o.out,fun _=>by omega⟩⟩,rfl⟩
    · have O:¬((x:Int)=(l[i]:Nat)):=(by omega);have o:Hid (∀ j,∀ h:j<l.length,j<i+1->l[j]≠x):=by
       intro j h h2 e;by_cases q:j=i;· subst q;exact d e.symm
       · exact A.out j h (by omega) e
      clear d;generalize l[i]=y at *;go_wp2_with fail;go_round;case rel=>exact⟨i+1,by omega,by go_num,o.out⟩
      case measure=>simp [intOf];omega
  · have M:¬(i:Int)<l.length:=(by omega);go_wp2_with fail;go_ret;refine⟨⟨_,rfl,⟨fun h=>absurd h (by decide),fun h=>?_⟩⟩,rfl⟩;obtain⟨j,q,e⟩:=List.getElem_of_mem h;exact absurd e (A.out j q (by omega))
theorem Sl(v:Value)(l:List Nat)(x:Nat)(w:World)(o:ai w eJ v l)(z:l.length<=1000000) :
  Calls Tryz.prog 170 #[v,N x] w fun e A=>e=.returned (.bool (decide (x∈l)))/\A=w:=by
 have B:=ad (Sk v l x w o z);obtain⟨F,G,rfl,_⟩:=o.shape;clear o;go_enter Tryz.func170, Tryz.ntmps170;go_wp2_with fail;refine(B.out).mono ?_;rintro e I ⟨⟨k,rfl,m⟩,rfl⟩;by_cases d:x∈l;· have D:0<=k:=m.2 d;have q:Hid (decide (x∈l)=true):=bt d;clear d m;go_wp2_with fail;go_ret;exact⟨by rw [q.out];rfl,rfl⟩
 · have D:decide (0<=k)=false:=aX (fun h=>d (m.1 h));have q:Hid (decide (x∈l)=false):=aX d;clear d m;go_wp2_with fail;go_ret;exact⟨by rw [q.out];rfl,rfl⟩
theorem A6(l:List Nat)(m:Nat)(h:∀ x∈l,x<=m):l.sum<=l.length*m:=by
 induction l with
 | nil=>simp
 | cons a l d=>have o:=h a (List.mem_cons_self ..);have q:=d fun x e=>h x (zm _ e);rw [lS,cd,iG];omega
theorem qP(s:Cs)(b:List UInt8)(m:Nat):(s.int b m).1<=m:=by
 show Cs.val _ _<=_;unfold Cs.val;split;· rename_i h;exact(lH _ _ h.2).2.2
 · exact an _
theorem O1(b:List UInt8)(d:Nat)(k:Nat):∀ (s:Cs) (e m:List Nat),(∀ x∈e,x<=d)->(∀ x∈m,x<=8388608) ->
  (fJ b d k s e m).1.length<=e.length+k/\(fJ b d k s e m).2.1.length<=m.length+k/\(∀ x∈(fJ b d k s e m).1,x<=d)/\(∀ x∈(fJ b d k s e m).2.1,x<=8388608):=by
 induction k with
 | zero=>intro s e m o q;exact⟨am _,am _,o,q⟩
 | succ k D=>
  intro s e m o q;rw [fJ];split
  · have F:=D ((s.int b d).2.int b 8388608).2 (e++[(s.int b d).1]) (m++[((s.int b d).2.int b 8388608).1])
      (fun x z => by
       rcases iZ.1 z with h | h
       · exact o x h
       · rw [lT.1 h]; exact qP _ _ _)
      (fun x z => by
       rcases iZ.1 z with h | h
       · exact q x h
       · rw [lT.1 h]; exact qP _ _ _)
    obtain⟨A,B,G⟩:=F;rw [aD]at A B;simp only [cd,lh]at A B;exact⟨by omega,by omega,G⟩
  · exact⟨ru _ _,ru _ _,o,q⟩
theorem yo(b:List UInt8):(cy b).1<=20000/\(lM b).1<=20000/\(cM b).1.length<=20000/\(cM b).2.1.length<=20000/\(cM b).1.sum<=400000000/\(cM b).2.1.sum<=167772160000/\(jq b).1<=8388608/\(jN b).1<=8388608:=by
 have d:(cy b).1<=20000:=qP _ _ _;have h:(lM b).1<=(cy b).1:=qP _ _ _;obtain⟨m,o,q,z⟩:=O1 b (cy b).1 (lM b).1 (lM b).2 [] [] (fun x e=>(gz e).elim) (fun x e=>(gz e).elim);simp only [lh,iX]at m o;have A:=A6 _ _ q;have B:=A6 _ _ z;have D:=bJ (az m (az h d)) d;have F:=dm 8388608 (az o (az h d));exact⟨d,by omega,by show(fJ _ _ _ _ _ _).1.length<=_;omega,by show(fJ _ _ _ _ _ _).2.1.length<=_;omega,by show(fJ _ _ _ _ _ _).1.sum<=_;omega,by show(fJ _ _ _ _ _ _).2.1.sum<=_;omega,qP _ _ _,qP _ _ _⟩
theorem O0(b:List UInt8)(d K j:Nat)(s:Cs)(e m:List Nat)(h:j<K)(o:s.er=0):fJ b d (K - j) s e m=fJ b d (K - (j+1)) ((s.int b d).2.int b 8388608).2 (e++[(s.int b d).1]) (m++[((s.int b d).2.int b 8388608).1]):=by
 rw [show K - j=(K - (j+1))+1 by omega,fJ,ag o]
theorem O2(b:List UInt8)(m k:Nat)(s:Cs)(d e:List Nat)(h:¬s.er=0):fJ b m k s d e=(d,e,s):=by
 cases k with
 | zero=>rfl
 | succ k=>rw [fJ,ae h]
theorem uN(v:Value)(l:List Nat)(w:World)(h:ai w eJ v l)(U:l.length<=1000000)(V:l.sum<=1000000000000000) :
  Calls Tryz.prog 105 #[v] w fun e F=>e=.returned (N l.sum)/\w=F:=by
 have G:=ad (fun k o=>aI h k o);have q:=ad (yd l);have I:=ad (wk l);have J:Hid ((l.take l.length).sum=l.sum):=by show _=_;rw [dO]
 obtain⟨X,Y,rfl,Z,K,aa⟩:=h.shape;unfold maxLen at K;generalize l.sum=T at *;go_enter Tryz.func105, Tryz.ntmps105;go_wp2_with fail;go_loopw [3,8] (fun L d wr=>∃ k:Nat,k<=l.length/\d=N k/\L=N (l.take k).sum/\w=wr) (fun _ d _=>l.length - (intOf d).toNat);case atStart=>exact⟨0,an _,rfl,by simp,rfl⟩
 case round=>
  obtain⟨k,o,rfl,rfl,rfl⟩:=hrel;have h1:=q.out k;by_cases z:k<l.length;· obtain⟨b,ac,aj,M,c0⟩:=G.out k z;cases M;have O:=ad (I.out k z);have h2:=q.out (k+1);generalize A:(l.take (k+1)).sum=Q at *;have R:=ad A;clear A;generalize (l.take k).sum=m at *;generalize l[k]=x at *;have B:Q=m+x:=O.out;have i1:(0:Int)<=k:=(by omega);have i2:(k:Int)<l.length:=(by omega);have D:=ad B;clear B;have hw:IntKind.i64.wrap ((m:Int)+x)=(m:Int)+x:=aw _ (by have:=D.out;omega);go_wp2_with fail;exact⟨⟨k+1,by omega,by go_num,by rw [R.out,D.out];go_num,by first | rfl | trivial⟩,by simp [intOf];omega⟩
  · obtain rfl:k=l.length:=(by omega);have a3:¬(l.length:Int)<l.length:=(by omega);rw [J.out];go_wp2_with fail;go_ret;exact⟨rfl,rfl⟩
abbrev uO(d e:Value)(p q:Nat):Array Value:=#[d,e,N p,N q,.slice none 0 0,.slice none 0 0,.slice none 0 0,.slice none 0 0,.slice none 0 0,.slice none 0 0]
structure fL (w:World) (g base:Nat) (cs zs:List Nat) (p q:Nat):Prop where
 h:∃ cv sv,w.heap[g]?=some (.cells (uO cv sv p q) 143 (0,0))/\Ow w base eJ cv cs/\Ow w base eJ sv zs/\(sv.ownBlock=none\/sv.ownBlock≠cv.ownBlock)
 lt:g<base
theorem fL.beside{w o:World}{B g base p q:Nat}{z A:List Nat}{J:Array Value}{T:TypeId}{f:Nat × Nat}(h:fL w g base z A p q)(D:w.heap[B]?=some (.cells J T f))(F:T≠3)(K:B≠g)(d:ah (fun k=>k=B) w o):fL o g base z A p q:=by
 obtain⟨⟨L,M,O,G,I,Q⟩,R⟩:=h;exact⟨⟨L,M,d.heap O (fun e=>K e.symm),G.chg d (fun k m e=>G.ne_cells D F (by rw [m,show k=B from e])),I.chg d (fun k m e=>I.ne_cells D F (by rw [m,show k=B from e])),Q⟩,R⟩
theorem fL.fr{w e:World}{g base p q:Nat}{m o:List Nat}(h:fL w g base m o p q)(d:Fr w e):fL e g base m o p q:=by
 obtain⟨⟨z,A,B,D,F,G⟩,I⟩:=h;exact⟨⟨z,A,d.heap B,D.fr d,F.fr d,G⟩,I⟩
theorem fL.push0{w z:World}{g base p q:Nat}{G A B:List Nat}{h d v':Value}(I:w.heap[g]?=some (.cells (uO h d p q) 143 (0,0)))(J:Ow w base eJ h G)(D:Ow w base eJ d B)(F:d.ownBlock=none\/d.ownBlock≠h.ownBlock)(o:g<base)(m:dg base eJ A w h v' z):fL (z.setCell ⟨g,0,none⟩ v') g base A B p q:=by
 have K:=m.chg'.heap I (fun e=>by have:=(J.lt _ e).1;omega);exact⟨⟨v',d,a8 K 0 v',dx (i:=0) (u:=v') m.own o,dx (i:=0) (u:=v') (m.other D F) o,m.apart D F⟩,o⟩
theorem fL.push1{w z:World}{g base p q:Nat}{A G B:List Nat}{h d v':Value}(I:w.heap[g]?=some (.cells (uO h d p q) 143 (0,0)))(D:Ow w base eJ h A)(J:Ow w base eJ d G)(F:d.ownBlock=none\/d.ownBlock≠h.ownBlock)(o:g<base)(m:dg base eJ B w d v' z):fL (z.setCell ⟨g,1,none⟩ v') g base A B p q:=by
 have K:=m.chg'.heap I (fun e=>by have:=(J.lt _ e).1;omega);exact⟨⟨h,v',a8 K 1 v',dx (i:=1) (u:=v') (m.other D (qI F)) o,dx (i:=1) (u:=v') m.own o,qI (m.apart D (qI F))⟩,o⟩
theorem fL.set2{w:World}{g base p q:Nat}{e m:List Nat}(h:fL w g base e m p q)(x:Nat):fL (w.setCell ⟨g,2,none⟩ (N x)) g base e m x q:=by
 obtain⟨⟨o,z,A,B,D,F⟩,d⟩:=h;exact⟨⟨o,z,a8 A 2 (N x),dx (i:=2) (u:=N x) B d,dx (i:=2) (u:=N x) D d,F⟩,d⟩
theorem fL.set3{w:World}{g base p q:Nat}{e m:List Nat}(h:fL w g base e m p q)(x:Nat):fL (w.setCell ⟨g,3,none⟩ (N x)) g base e m p x:=by
 obtain⟨⟨o,z,A,B,D,F⟩,d⟩:=h;exact⟨⟨o,z,a8 A 3 (N x),dx (i:=3) (u:=N x) B d,dx (i:=3) (u:=N x) D d,F⟩,d⟩
def C5:Op:=Op.load 60 (.tmp 32)
def C2:Op:=Op.load 60 (.tmp 44)
attribute [local go_sem] C5
attribute [local go_sem] C2
theorem Dr(b:List UInt8)(d:Nat):lN b d=if((jN b).2.fin b).er=0 then(if 0∈(cM b).1\/¬(cM b).1.sum=(cy b).1\/¬(cM b).2.1.sum+(jq b).1+(jN b).1=d then 2 else 0)else((jN b).2.fin b).er:=rfl
theorem Oi (g R : Nat) (v : Value) (b : List UInt8) (w : World) (hg : w.heap[g]? = some (.cells (uO (.slice none 0 0) (.slice none 0 0) 0 0) 143 (0, 0))) (hs : ai w eB v b) (hl : b.length ≤ 1000000) (hr : R ≤ 1000000) :
    Calls Tryz.prog 125 #[.pointer (some ⟨g,0,none⟩),v,N R] w fun e w'=>e=.returned (.int .i64 (lN b R:Int))/\fL w' g w.heap.size (cM b).1 (cM b).2.1 (jq b).1 (jN b).1/\ah (fun k=>k=g) w w':=by
  have d6:=ad (m8 v b w hs hl);have aj:=ad (fun d7 (hm:d7<9223372036854775808) B base s W h=>nR d7 hm B base s b W h hl);have d8:=ad (fun B base n er W h=>iE B base n er b W h);have d9:=ad (fun B base s W h=>EO B base s b W h);obtain⟨r1,r2,r3,r4,r5,r6,r7,r8⟩:=yo b;have b5:=ad (Dr b R);have HN:Hid ((cy b)=(⟨0,0⟩:Cs).int b 20000):=rfl;have HK:Hid ((lM b)=(cy b).2.int b (cy b).1):=rfl;have HP:Hid ((jq b)=(cM b).2.2.int b 8388608):=rfl;have HQ:Hid ((jN b)=(jq b).2.int b 8388608):=rfl;have HG:Hid (cM b=fJ b (cy b).1 ((lM b).1 - 0) (lM b).2 [] []):=rfl;have HS:=ad (O0 b (cy b).1 (lM b).1);have e2:=ad (O2 b (cy b).1);have ct:g<w.heap.size:=(aM.1 hg).1;generalize lN b R=E at *;generalize cM b=Z at *;generalize fN:cy b=DN at *;generalize fQ:lM b=DK at *;generalize ga:jq b=DP at *;generalize gc:jN b=DQ at *;obtain⟨n,s1⟩:=DN;obtain⟨K,s2⟩:=DK;obtain⟨p,s4⟩:=DP;obtain⟨q,s5⟩:=DQ;have hn:n<=20000:=r1;have hK:K<=20000:=r2;clear fN fQ ga gc r1 r2;obtain⟨a0,hq,rfl,_⟩:=hs.shape;clear hs;go_enter Tryz.func125, Tryz.ntmps125;go_wp2_with fail;refine(d6.out).mono ?_;rintro e w1 ⟨B,rfl,hC,c5,hB⟩;have c6:=ad (aj.out 20000 (by omega) B _ ⟨0,0⟩ w1 hC);rw [<- HN.out]at c6;have e6:fL w1 g w.heap.size [] [] 0 0:=⟨⟨_,_,c5.heap hg,Ow.nil,Ow.nil,.inl rfl⟩,ct⟩;have e7:=c5.size;have e8:=c5.chg (fun k=>k=g\/w.heap.size<=k);obtain⟨bx,z⟩:=hC.cbox;clear d6 hC hg HN;go_wp2_with fail;refine(c6.out).mono ?_;rintro e w2 ⟨rfl,c7,b6⟩;have e9:=e6.beside z (by decide) (by omega) b6;have eL:=az e7 b6.size;have fa:=e8.trans (G':=fun k=>k=B) b6 fun k _ e=>.inr (by have e:k=B:=e;omega);have c8:=ad (aj.out n (by omega) B _ s1 w2 c7);rw [<- HK.out]at c8;obtain⟨bx,fb⟩:=c7.cbox;clear c6 e6 e8 z b6 c7 HK;go_wp2_with fail;refine(c8.out).mono ?_;rintro e w3 ⟨rfl,c9,b7⟩;have cA:=e9.beside fb (by decide) (by omega) b7;have cB:=az eL b7.size;have cE:=fa.trans (G':=fun k=>k=B) b7 fun k _ e=>.inr (by have e:k=B:=e;omega);clear c8 e9 fa fb b7 e7 eL;go_upto_block 0 with fail;go_cut [10]from 19 to 51 (fun _ F=>∃ (s:Cs) (d m:List Nat),Z=(d,m,s)/\fL F g w.heap.size d m 0 0/\ar F 130 B w.heap.size b s.at_ s.er/\ah (fun k=>k=g\/w.heap.size<=k) w F/\w.heap.size<=F.heap.size)
  case first=>
    go_wp2_with fail;go_loopw [10] (fun iv wr=>∃ (j:Nat) (s:Cs) (d m:List Nat),j<=K/\iv=N j/\Hid (d.length=j)/\Hid (m.length=j)/\fL wr g w.heap.size d m 0 0/\ar wr 130 B w.heap.size b s.at_ s.er/\ah (fun k=>k=g\/w.heap.size<=k) w wr/\w.heap.size<=wr.heap.size/\Hid (Z=fJ b n (K - j) s d m)) (fun iv _=>K - (intOf iv).toNat);case atStart=>exact⟨0,s2,[],[],an _,rfl,rfl,rfl,cA,c9,cE,cB,HG.out⟩
    case round=>
      clear cA c9 cE cB HG;obtain⟨j,s,d,m,hj,rfl,fc,fe,hD,hC,X,hz,a5⟩:=hrel;have G:=ad (d8.out B _ s.at_ s.er wr hC);by_cases g0:j<K
      · have i1:(j:Int)<K:=(by omega);by_cases U:s.er=0
        · have a6:=ad (a5.out.trans (HS.out j s d m g0 U));rw [U]at G;have fh:=ad (aj.out n (by omega) B _ s wr.drew (hC.fr (Fr.refl wr).drew));have cG:=ad (fun W h=>aj.out 8388608 (by omega) B w.heap.size (s.int b n).2 W h);obtain⟨b8,z⟩:=hC.cbox;obtain⟨cv,sv,o,A,I,Y⟩:=hD.h;obtain⟨ca,cc,rfl⟩:=A.shape';have Q:B≠g:=(by omega);have bB:=fc.out;have bL:=fe.out;have fk:Hid (d.length+[(s.int b n).1].length<=2147483648):=(by show _<=_;simp;omega);have g1:Hid (m.length+[((s.int b n).2.int b 8388608).1].length<=2147483648):=(by show _<=_;simp;omega);have c0:=af o 0 rfl;clear bB bL U a5;generalize ((s.int b n).2.int b 8388608).2=g2 at *;generalize ((s.int b n).2.int b 8388608).1=y at *;generalize (s.int b n).1=x at *;generalize (s.int b n).2=s3 at *;go_wp2_with fail;refine(G.out).mono ?_;rintro e w5 ⟨rfl,rfl⟩;go_upto_region 7 with fail;go_cut []from 29 to 40 (fun F=>fL F g w.heap.size (d++[x]) m 0 0/\ar F 130 B w.heap.size b s3.at_ s3.er/\ah (fun k=>k=g\/w.heap.size<=k) w F/\w.heap.size<=F.heap.size)
          case first=>
            clear a6 cG G;rw [show Op.load 60 (.tmp 32)=C5 from rfl]
            go_region_held_law (fun _ => True) (first | trivial | go_keep) (((first
              | (go_at_call 81; refine (fh.out).mono ?_; rintro e M ⟨rfl, ba, D⟩
                 have ap := D.heap (show wr.drew.heap[g]? = _ from o) (fun e => Q e.symm)
                 have av := A.drew.chg D (fun k hk e => A.ne_cells z (by decide) (by rw [hk, show k = B from e]))
                 have a3 := I.drew.chg D (fun k hk e => I.ne_cells z (by decide) (by rw [hk, show k = B from e]))
                 have ab : w.heap.size ≤ M.heap.size := az hz D.size
                 have bb := (X.trans ((Fr.refl wr).drew.chg (fun k => k = g ∨ w.heap.size ≤ k)) (fun _ _ h => h)).trans (G' := fun k => k = B) D fun k _ e => .inr (by have e : k = B := e; omega)
                 have d0 := af ap 0 rfl
                 have d1 := ((Fr.refl M).alloc (.cells #[N x] 3)).cell d0)
              | (refine q8 eJ rfl (.tmp 33) (.tmp 37) 60 rfl Tryz.underlying60 w.heap.size rfl av [x] _ _ _ rfl rfl rfl fk.out ab ?_
                 intro v' O J
                 have cT := J.own
                 obtain ⟨va, vc, bs⟩ := cT.shape'
                 rw [show (d ++ [x]).length = d.length + 1 from by simp] at bs
                 subst bs
                 have a4 := J.chg'.heap ap (fun e => by have := (av.lt _ e).1; omega)
                 have e3 := af a4 0 rfl
                 have e4 : O.frozen? ⟨g, 0, none⟩ = false := al a4 0))))
            all_goals go_wp2_with fail
            all_goals go_meet
            all_goals exact⟨fL.push0 ap av a3 Y ct J,(ba.app av J (by decide) (by decide)).box a4 (by decide) Q (ao O ⟨g,0,none⟩ _),(bb.trans J.chg' fun k _ e=>.inr (av.lt k e).1).trans (ao O ⟨g,0,none⟩ _) fun k _ e=>.inl e,az (az ab J.size) (ao O ⟨g,0,none⟩ _).size⟩
          case rest=>
            obtain⟨hD,hC,X,hz⟩:=hcut;clear fh G z o A I Y c0 fk;have g7:=ad (cG.out wc.drew (hC.fr (Fr.refl wc).drew));obtain⟨b8,z⟩:=hC.cbox;obtain⟨cv,sv,o,A,I,Y⟩:=hD.h;obtain⟨sa,sc,rfl⟩:=I.shape';have c0:=af o 1 rfl;go_upto_region 8 with fail;have bB:=fc.out;have bL:=fe.out;have g8:Hid ((d++[x]).length=j+1):=(by show _=_;rw [aD,bB];rfl);have g9:Hid ((m++[y]).length=j+1):=(by show _=_;rw [aD,bL];rfl);clear bB bL cG;rw [show Op.load 60 (.tmp 44)=C2 from rfl]
            go_region_held_law (fun _ => True) (first | trivial | go_keep) (((first
              | (go_at_call 81; refine (g7.out).mono ?_; rintro e M ⟨rfl, ba, D⟩
                 have ap := D.heap (show wc.drew.heap[g]? = _ from o) (fun e => Q e.symm)
                 have av := A.drew.chg D (fun k hk e => A.ne_cells z (by decide) (by rw [hk, show k = B from e]))
                 have a3 := I.drew.chg D (fun k hk e => I.ne_cells z (by decide) (by rw [hk, show k = B from e]))
                 have ab : w.heap.size ≤ M.heap.size := az hz D.size
                 have bb := (X.trans ((Fr.refl wc).drew.chg (fun k => k = g ∨ w.heap.size ≤ k)) (fun _ _ h => h)).trans (G' := fun k => k = B) D fun k _ e => .inr (by have e : k = B := e; omega)
                 have d0 := af ap 1 rfl
                 have d1 := ((Fr.refl M).alloc (.cells #[N y] 3)).cell d0)
              | (refine q8 eJ rfl (.tmp 45) (.tmp 48) 60 rfl Tryz.underlying60 w.heap.size rfl a3 [y] _ _ _ rfl rfl rfl g1.out ab ?_
                 intro v' O J
                 have cT := J.own
                 obtain ⟨va, vc, bs⟩ := cT.shape'
                 rw [show (m ++ [y]).length = m.length + 1 from by simp] at bs
                 subst bs
                 have a4 := J.chg'.heap ap (fun e => by have := (a3.lt _ e).1; omega)
                 have e3 := af a4 1 rfl
                 have e4 : O.frozen? ⟨g, 1, none⟩ = false := al a4 1))))
            all_goals go_wp2_with fail
            all_goals go_roundw
            all_goals first
              | (simp [intOf];omega)
              | exact⟨j+1,g2,d++[x],m++[y],by omega,by go_num,g8.out,g9.out,fL.push1 ap av a3 Y ct J,(ba.app a3 J (by decide) (by decide)).box a4 (by decide) Q (ao O ⟨g,1,none⟩ _),(bb.trans J.chg' fun k _ e=>.inr (a3.lt k e).1).trans (ao O ⟨g,1,none⟩ _) fun k _ e=>.inl e,az (az ab J.size) (ao O ⟨g,1,none⟩ _).size,a6.out⟩
        · have gO:¬(s.er:Int)=0:=(by omega);have a6:=ad (a5.out.trans (e2.out (K - j) s d m U));clear a5;go_wp2_with fail;refine(G.out).mono ?_;rintro e w5 ⟨rfl,rfl⟩;go_wp2_with fail;go_meet;exact⟨s,d,m,a6.out,hD,hC,X,hz⟩
      · obtain rfl:j=K:=(by omega);have i1:¬(j:Int)<j:=(by omega);have a6:Hid (Z=(d,m,s)):=(by show _=_;rw [a5.out,gu];rfl);clear a5;go_wp2_with fail;go_meet;exact⟨s,d,m,a6.out,hD,hC,X,hz⟩
  case rest=>
    obtain⟨s,d,m,ha,hD,hC,X,hz⟩:=hcut;clear cA c9 cE cB HG HS e2;have da:=ad (aj.out 8388608 (by omega) B _ s wc hC);subst ha;rw [show(s.int b 8388608)=(p,s4)from HP.out.symm]at da;have dc:=ad (fun W h=>aj.out 8388608 (by omega) B w.heap.size s4 W h);rw [show(s4.int b 8388608)=(q,s5)from HQ.out.symm]at dc;have fm:=ad (fun W h=>d9.out B w.heap.size s5 W h);obtain⟨b8,z⟩:=hC.cbox;have Q:B≠g:=(by omega);clear hC HP HQ d9 aj d8;generalize s5.fin b=s6 at *;go_wp2_with fail;refine(da.out).mono ?_;rintro e w4 ⟨rfl,fn,bT⟩;have di:=hD.beside z (by decide) Q bT;have fr:=X.trans (G':=fun k=>k=B) bT fun k _ e=>.inr (by have e:k=B:=e;omega);have fv:=az hz bT.size;clear da hD X z bT;obtain⟨cv,sv,o,A,I,Y⟩:=di.h;have e3:=af o 2 rfl;have e4:w4.frozen? ⟨g,2,none⟩=false:=al o 2;have f0:=di.set2 p;have dj:=fn.box o (by decide) Q (ao w4 ⟨g,2,none⟩ (N p));have f1:=fr.trans (ao w4 ⟨g,2,none⟩ (N p)) fun k _ e=>.inl e;have f2:=az fv (ao w4 ⟨g,2,none⟩ (N p)).size;clear di fn fr o A I Y fv;go_wp2_with fail;generalize w4.setCell ⟨g,2,none⟩ (N p)=w5 at *;have f3:=ad (dc.out w5 dj);obtain⟨b8,z⟩:=dj.cbox;clear dc dj e3 e4;refine(f3.out).mono ?_;rintro e M ⟨rfl,ba,D⟩;have dr:=f0.beside z (by decide) Q D;have bb:=f1.trans (G':=fun k=>k=B) D fun k _ e=>.inr (by have e:k=B:=e;omega);have ab:=az f2 D.size;clear f3 f0 f1 z D f2;obtain⟨cv,sv,o,A,I,Y⟩:=dr.h;have e3:=af o 3 rfl;have e4:M.frozen? ⟨g,3,none⟩=false:=al o 3;have f4:=dr.set3 q;have ds:=ba.box o (by decide) Q (ao M ⟨g,3,none⟩ (N q));have f5:=bb.trans (ao M ⟨g,3,none⟩ (N q)) fun k _ e=>.inl e;have hb:=az ab (ao M ⟨g,3,none⟩ (N q)).size;clear dr ba bb o A I Y ab;go_wp2_with fail;generalize M.setCell ⟨g,3,none⟩ (N q)=O at *;have f6:=ad (fm.out O ds);obtain⟨b8,z⟩:=ds.cbox;clear fm ds e3 e4;refine(f6.out).mono ?_;rintro e L ⟨rfl,hc,dv⟩;have cb:=f4.beside z (by decide) Q dv;have f7:=f5.trans (G':=fun k=>k=B) dv fun k _ e=>.inr (by have e:k=B:=e;omega);have cf:Hid (ah (fun k=>k=g) w L):=f7.mono (G':=fun k=>k=g) fun k hk h=>(by have h:k=g\/w.heap.size<=k:=h;show k=g;omega);clear f6 f4 f5 z dv hc f7;by_cases U:s6.er=0
    · have f9:((s6.er:Nat):Int)=0:=(by omega);have G:Hid (E=if 0∈d\/¬d.sum=n\/¬m.sum+p+q=R then 2 else 0):=(by show _=_;rw [b5.out,ag U]);rw [f9];have ch:=ad cb;have d2:Hid (ah (fun k=>k=g) w L.drew):=cf.out.trans ((Fr.refl L).drew.chg (fun k=>k=g)) fun _ _ h=>h;obtain⟨cv,sv,o,A,I,_⟩:=cb.h;obtain⟨ca,cc,rfl⟩:=A.shape';obtain⟨sa,sc,rfl⟩:=I.shape';have c0:=af o 0 rfl;have c1:=af o 1 rfl;have c2:=af o 2 rfl;have c3:=af o 3 rfl;have r3:d.length<=20000:=r3;have r4:m.length<=20000:=r4;have r5:d.sum<=400000000:=r5;have r6:m.sum<=167772160000:=r6;have r7:p<=8388608:=r7;have r8:q<=8388608:=r8;have bc:Hid (∀ W,Fr L W->Calls Tryz.prog 170 #[.slice ca d.length cc,.int .i64 0] W fun e w'=>e=.returned (.bool (decide (0∈d)))/\w'=W):=fun W h=>Sl _ d 0 W (A.see.fr h) (by omega);have b2:=ad (fun W (h:Fr L W)=>uN _ d W (A.see.fr h) (by omega) (by omega));have cj:=ad (fun W (h:Fr L W)=>uN _ m W (I.see.fr h) (by omega) (by omega));clear b5 U f9 cb o A I hb r3 r4;by_cases m0:0∈d;· rw [bt m0]at bc;have V:Hid (E=2):=(by show _=_;rw [G.out,ag (.inl m0)]);clear m0 G b2 cj;go_upto_region 14 with fail;go_quiet ((go_at_call 170;exact Calls.quiet_of_same (bc.out _ (Fr.drewN (Fr.refl L) _))));go_wp2_with fail;go_ret;exact⟨by rw [V.out];rfl,ch.out.fr (Fr.drewN (Fr.refl L) _),cf.out.trans (s7 (fun k=>k=g) L _) fun _ _ h=>h⟩
      rw [aX m0]at bc;by_cases m1:d.sum=n
      · have i1:((d.sum:Nat):Int)=n:=(by omega);rw [m1]at b2;obtain⟨a1,d3⟩:∃ a1,a1=m.sum+p:=⟨_,rfl⟩;obtain⟨a2,d4⟩:∃ a2,a2=a1+q:=⟨_,rfl⟩;have hy:IntKind.i64.wrap ((m.sum:Int)+p)=(a1:Int):=(by rw [aw _ (by omega)];omega);have hd:IntKind.i64.wrap ((a1:Int)+q)=(a2:Int):=(by rw [aw _ (by omega)];omega);rw [<- d3,<- d4]at G;by_cases m2:a2=R
        · have V:Hid (E=0):=(by show _=_;rw [G.out,ae (by rintro(h | h | h);exact m0 h;exact h m1;exact h m2)]);have j2:(a2:Int)=R:=(by omega);clear m0 m1 d3 d4 G r5 r6 i1;generalize m.sum=zz at *;rw [m2]at hd;clear m2 j2;go_upto_region 14 with fail
          go_region_held3 (fun W => W.cell? ⟨g, 0, none⟩ = some (.slice ca d.length cc) ∧ W.cell? ⟨g, 1, none⟩ = some (.slice sa m.length sc) ∧ W.cell? ⟨g, 2, none⟩ = some (N p) ∧ W.cell? ⟨g, 3, none⟩ = some (N q))
            (first | go_keep)
            ((first
              | (go_at_call 170; refine (bc.out _ (Fr.refl _).drew).mono ?_; rintro e F ⟨rfl, rfl⟩)
              | (go_at_call_of 105 (Value.slice ca d.length cc); refine (b2.out _ (Fr.refl _).drew).mono ?_; rintro e F ⟨rfl, rfl⟩)
              | (go_at_call_of 105 (Value.slice sa m.length sc); refine (cj.out _ (Fr.refl _).drew).mono ?_; rintro e F ⟨rfl, rfl⟩)))
          go_wp2_with fail;go_ret;exact⟨by rw [V.out];rfl,ch.out.fr (Fr.refl _).drew,d2.out⟩
        · have V:Hid (E=2):=(by show _=_;rw [G.out,ag (.inr (.inr m2))]);have j2:¬(a2:Int)=R:=(by omega);clear m0 m1 d3 d4 G r5 r6 i1;generalize m.sum=zz at *;go_upto_region 14 with fail
          go_region_held3 (fun W => W.cell? ⟨g, 0, none⟩ = some (.slice ca d.length cc) ∧ W.cell? ⟨g, 1, none⟩ = some (.slice sa m.length sc) ∧ W.cell? ⟨g, 2, none⟩ = some (N p) ∧ W.cell? ⟨g, 3, none⟩ = some (N q))
            (first | go_keep)
            ((first
              | (go_at_call 170; refine (bc.out _ (Fr.refl _).drew).mono ?_; rintro e F ⟨rfl, rfl⟩)
              | (go_at_call_of 105 (Value.slice ca d.length cc); refine (b2.out _ (Fr.refl _).drew).mono ?_; rintro e F ⟨rfl, rfl⟩)
              | (go_at_call_of 105 (Value.slice sa m.length sc); refine (cj.out _ (Fr.refl _).drew).mono ?_; rintro e F ⟨rfl, rfl⟩)))
          go_wp2_with fail;go_ret;exact⟨by rw [V.out];rfl,ch.out.fr (Fr.refl _).drew,d2.out⟩
      · have V:Hid (E=2):=(by show _=_;rw [G.out,ag (.inr (.inl m1))]);have i1:¬((d.sum:Nat):Int)=n:=(by omega);clear m0 G cj d2 r5 r6 m1;go_upto_region 14 with fail
        go_quiet ((first
          | (go_at_call 170; exact Calls.quiet_of_same (bc.out _ (Fr.drewN (Fr.refl L) _)))
          | (go_at_call 105; exact Calls.quiet_of_same ((b2.out _ (Fr.drewN (Fr.refl L) _)).mono fun _ _ h => ⟨h.1, h.2.symm⟩))))
        go_wp2_with fail;go_ret;exact⟨by rw [V.out];rfl,ch.out.fr (Fr.drewN (Fr.refl L) _),cf.out.trans (s7 (fun k=>k=g) L _) fun _ _ h=>h⟩
    · have gO:¬(s6.er:Int)=0:=(by omega);have V:Hid (E=s6.er):=(by show _=_;rw [b5.out,ae U]);clear b5 U;go_wp2_with fail;go_ret;exact⟨by rw [V.out];rfl,cb,cf.out⟩
theorem yq(c:List UInt8):(aS c).length<=c.length:=by
 unfold aS;split;· rw [aG];omega
 · exact an _
theorem D4(n:Nat)(c:List UInt8):kU n c=if bP c=0 then(if(dY n (aS c)).2.2.2=0 then(if(dY n (aS c)).2.2.1<(aS c).length then 2 else 0)else(dY n (aS c)).2.2.2)else bP c:=rfl
theorem Pa(g n:Nat)(hn:n<=20000)(v:Value)(c:List UInt8)(w:World)(O Q U V X Y Z x9:Value)(hg:w.heap[g]?=some (.cells #[O,Q,U,V,.slice none 0 0,.slice none 0 0,X,Y,Z,x9] 143 (0,0)))
  (hs:ai w eB v c) (hl:c.length<=1000000) (ht:bK w) :
  Calls Tryz.prog 127 #[.pointer (some ⟨g,4,none⟩),N n,v] w fun e G=>e=.returned (.int .i64 (kU n c:Int)) /\
   (kU n c=0->∃ u t,G.heap[g]?=some (.cells #[O,Q,U,V,u,t,X,Y,Z,x9] 143 (0,0))/\Ow G w.heap.size eQ u (dY n (aS c)).1/\Ow G w.heap.size eB t (dY n (aS c)).2.1)/\ah (fun k=>k=g) w G:=by
 have a3:=ad (oQ v c w hs hl ht);have bk:=yq c;have d:=ad (D4 n c);have a4:=ad (fun W u (h:ai W eB u (aS c))=>Rc n hn u (aS c) W h (by omega));have I:g<w.heap.size:=(aM.1 hg).1;obtain⟨a0,b2,rfl,_⟩:=hs.shape;clear hs;have b3:(aS c).length<=1000000:=by omega
 clear bk;generalize kU n c=E at *;generalize bP c=er at *;generalize aS c=q at *;generalize dY n q=R at *;obtain⟨T,L,m,e2⟩:=R;go_enter Tryz.func127, Tryz.ntmps127;go_wp2_with fail;refine(a3.out).mono ?_;rintro e w1 ⟨u,rfl,hO,B⟩;obtain⟨ua,uc,rfl⟩:=hO.shape';clear a3;by_cases J:er=0
 · rw [ag J]at d;subst J;have a7:=ad (a4.out w1 _ hO.see);have aC:=B.heap hg;clear a4 hO hg;go_wp2_with fail;refine(a7.out).mono ?_;rintro e A ⟨tv,lv,rfl,hT,hL,ap⟩;obtain⟨o,z,rfl⟩:=hT.shape';obtain⟨D,F,rfl⟩:=hL.shape';have av:=ap.heap aC;have a1:=B.trans ap;have ba:=hT.rebase B.size;have bb:=hL.rebase B.size;clear a7 aC ap hT hL;by_cases K:e2=0
   · rw [ag K]at d;subst K;by_cases M:m<q.length;· rw [ag M]at d;have i1:(m:Int)<q.length:=(by omega);clear M;go_wp2_with fail;go_ret;exact⟨by rw [d.out];rfl,fun h=>absurd (d.out.symm.trans h) (by decide),a1.chg _⟩
     · rw [ae M]at d;have i1:¬(m:Int)<q.length:=(by omega);have e4:=af av 4 rfl;have f4:A.frozen? ⟨g,4,none⟩=false:=al av 4;have bc:=ao A ⟨g,4,none⟩ (.slice o T.length z);have a2:(A.setCell ⟨g,4,none⟩ (.slice o T.length z)).heap[g]?=some (.cells #[O,Q,U,V,.slice o T.length z,.slice none 0 0,X,Y,Z,x9] 143 (0,0)):=a8 av 4 (.slice o T.length z);have e5:(A.setCell ⟨g,4,none⟩ (.slice o T.length z)).cell? ⟨g,5,none⟩=some (.slice none 0 0):=(by rw [aA a2];rfl);have f5:(A.setCell ⟨g,4,none⟩ (.slice o T.length z)).frozen? ⟨g,5,none⟩=false:=al a2 5;have bd:=ao (A.setCell ⟨g,4,none⟩ (.slice o T.length z)) ⟨g,5,none⟩ (.slice D L.length F);have bs:=a8 a2 5 (.slice D L.length F);have bu:=dx (i:=5) (u:=.slice D L.length F) (dx (i:=4) (u:=.slice o T.length z) ba I) I;have bv:=dx (i:=5) (u:=.slice D L.length F) (dx (i:=4) (u:=.slice o T.length z) bb I) I;have bx:ah (fun k=>k=g) w ((A.setCell ⟨g,4,none⟩ (.slice o T.length z)).setCell ⟨g,5,none⟩ (.slice D L.length F)):=((a1.chg (fun k=>k=g)).trans bc fun _ _ h=>h).trans bd fun _ _ h=>h;clear M bc bd ba bb;go_wp2_with fail;go_ret;exact⟨by rw [d.out];rfl,fun _=>⟨_,_,bs,bu,bv⟩,bx⟩
   · rw [ae K]at d;have i2:¬(e2:Int)=0:=(by omega);go_wp2_with fail;go_ret;exact⟨by rw [d.out];rfl,fun h=>absurd (d.out.symm.trans h) K,a1.chg _⟩
 · rw [ae J]at d;have i2:¬(er:Int)=0:=(by omega);go_wp2_with fail;go_ret;exact⟨by rw [d.out];rfl,fun h=>absurd (d.out.symm.trans h) J,B.chg _⟩
def C4:Op:=Op.load 95 (.tmp 21)
attribute [local go_sem] C4
theorem OQ(l:List Nat)(z:Nat):∀ b:List UInt8,gl (l++[z]) b=gl l b++[(b.drop l.sum).take z]:=by
 induction l with
 | nil=>intro b;simp [gl]
 | cons x l d=>intro b;rw [qm,gl,gl,d,mF,lS,qm]
theorem ON(l:List Nat)(b:List UInt8)(i:Nat)(h:i<l.length):gl (l.take (i+1)) b=gl (l.take i) b++[(b.drop (l.take i).sum).take l[i]]:=by
 rw [gy h,OQ]
theorem PN (g p base : Nat) (v : Value) (b : List UInt8) (d : List Nat) (A w : World) (Z x3 x4 x5 x6 x7 x9 sv : Value) (hg : w.heap[g]? = some (.cells #[Z, sv, N p, x3, x4, x5, x6, x7, .slice none 0 0, x9] 143 (0, 0)))
    (hz:Ow w base eJ sv d) (K:ai A eB v b) (h0:Fr A w) (hg0:A.heap.size<=g) (hgb:g<base) (hl:b.length<=1000000) (hr:d.sum+p<=b.length) (hzl:d.length<=20000) :
    Calls Tryz.prog 126 #[.pointer (some ⟨g,0,none⟩),v] w fun e w'=>∃ cv D,e=.returned (.tuple #[cv,D])/\ai A eB cv ((b.drop d.sum).take p)/\ai A eB D ((b.drop d.sum).drop p) /\
      (∃ o m,w'.heap[g]?=some (.cells #[Z,sv,N p,x3,x4,x5,x6,x7,o,x9] 143 (0,0))/\Ow w' w.heap.size aQ o m/\de w' w.heap.size eB m (gl d b))/\ah (fun k=>k=g) w w':=by
  have bm:g<w.heap.size:=(aM.1 hg).1;have cm:=ad (yd d);have bs:=ad (wk d);have cn:Hid ((d.take d.length).sum=d.sum):=(by show _=_;rw [dO]);have cp:=ad (ON d b);have cq:Hid (gl (d.take d.length) b=gl d b):=(by show _=_;rw [dO]);have cs:=ad (fun v q W K (hq:q.length<=1000000)=>jT v q W K hq);obtain⟨za,zc,rfl⟩:=hz.shape';have c1:=af hg 1 rfl;obtain⟨a0,b0,rfl,_⟩:=K.shape;have b1:ai A eB (.slice a0 b.length b0) (b.drop 0):=K;clear K;go_enter Tryz.func126, Tryz.ntmps126;go_wp2_with fail;go_loopw [1,14] (fun bv D wr=>∃ (i a:Nat) (q:Option Addr) (c:Nat) (m:List Hd),i<=d.length/\D=N i/\Hid (a=(d.take i).sum)/\a<=d.sum/\bv=.slice q (b.length - a) c/\ai A eB (.slice q (b.length - a) c) (b.drop a)/\m.length=i/\(∃ o,wr.heap[g]?=some (.cells #[Z,.slice za d.length zc,N p,x3,x4,x5,x6,x7,o,x9] 143 (0,0))/\Ow wr w.heap.size aQ o m)/\de wr w.heap.size eB m (gl (d.take i) b)/\ah (fun k=>k=g\/w.heap.size<=k) w wr/\w.heap.size<=wr.heap.size) (fun _ D _=>d.length - (intOf D).toNat);case atStart=>exact⟨0,0,a0,b0,[],an _,rfl,rfl,an _,rfl,b1,rfl,⟨_,hg,Ow.nil⟩,⟨rfl,fun t h=>by simp at h⟩,(Fr.refl w).chg _,am _⟩
  case round=>
    clear b1 c1;obtain⟨i,a,q,c,m,hi,rfl,L,ha,rfl,F,b2,⟨o,M,hF⟩,hO,G,a7⟩:=hrel;have b3:Fr A wr:=((h0.chg (fun k=>k=g\/w.heap.size<=k)).trans G fun _ _ h=>h).fr (fun k hk e=>by have:=h0.size;have e:k=g\/w.heap.size<=k:=e;omega);have b4 := hz.chg G (fun k hk e => by
      have h1 := hz.lt k hk;have h2 := hz.ne_cells hg (by decide);rcases e with e | e;· exact h2 (by rw [hk, e])
      · omega)
    by_cases a4:i<d.length
    · have i1:(i:Int)<d.length:=(by omega);have i2:(0:Int)<=i:=(by omega);obtain⟨b5,o5,p5,c6,e5⟩:=b4.see.cell1 N rfl i a4;cases c6;have e6:wr.cell? ⟨b5,o5+i,none⟩=some (N d[i]):=e5;have bA:=cm.out (i+1);rw [bs.out i a4,<- L.out]at bA;have c7:Hid (a+d[i]=(d.take (i+1)).sum):=(by show _=_;rw [bs.out i a4,<- L.out]);have c9:Hid (gl (d.take (i+1)) b=gl (d.take i) b++[(b.drop a).take d[i]]):=(by show _=_;rw [cp.out i a4,<- L.out]);clear e5;generalize d[i]=z at *;have ba:(b.drop a).length=b.length - a:=aU ..;have bb:z<=(b.drop a).length:=(by omega);obtain⟨cA,O⟩:=gD eB 22 Tryz.underlying22 F z bb;obtain⟨p2,c2,bL,I⟩:=iy eB 22 Tryz.underlying22 F z bb;have bc:(b.drop a).length - z=b.length - (a+z):=(by omega);rw [bc,mF]at I;rw [bc]at bL;have bR:=ad (cs.out _ ((b.drop a).take z) wr.drew (O.fr b3.drew) (by rw [aG];omega));have bT:((b.drop a).take z).length=z:=(by rw [aG];omega);have a5:=ad I;have cB:=ad b2;have cE:Hid (m.length+[(⟨none,0,0⟩:Hd)].length<=2147483648):=(by show _<=_;simp;omega);obtain⟨fa,fc,rfl⟩:=hF.shape';have c8:=af M 8 rfl;have d6:=ad bT;clear F ba bb O I bc b2 bT;generalize (b.drop a).take z=J at *;go_upto_region 4 with fail;go_cut []from 18 to 30 (fun Q=>∃ R:List Hd,R.length=i+1/\(∃ o,Q.heap[g]?=some (.cells #[Z,.slice (some ⟨b5,o5,none⟩) d.length zc,N p,x3,x4,x5,x6,x7,o,x9] 143 (0,0))/\Ow Q w.heap.size aQ o R)/\de Q w.heap.size eB R (gl (d.take i) b++[J])/\ah (fun k=>k=g\/w.heap.size<=k) w Q/\w.heap.size<=Q.heap.size)
      case first=>
        rw [show Op.load 95 (.tmp 21)=C4 from rfl]
        go_region_held_law (fun _ => True) (first | trivial | go_keep) (((first
          | (go_at_call 61; refine (bR.out).mono ?_; rintro e w6 ⟨u6, rfl, cb, U⟩
             obtain ⟨V, X, rfl⟩ := cb.shape'
             have cc := U.heap (show wr.drew.heap[g]? = _ from M)
             have Y := hF.drew.fr U
             have cf : w.heap.size ≤ w6.heap.size := az a7 U.size
             have cG := cb.rebase (show w.heap.size ≤ _ from a7)
             have d0 := af cc 8 rfl
             have d1 := ((Fr.refl w6).alloc (.cells #[.slice V J.length X] 22)).cell d0)
          | (refine q8 aQ rfl (.tmp 22) (.tmp 27) 95 rfl Tryz.underlying95 w.heap.size rfl Y [⟨V, J.length, X⟩] _ _ _ rfl rfl rfl cE.out cf ?_
             intro v' w7 B
             have cN := B.own
             obtain ⟨va, vc, ch⟩ := cN.shape'
             rw [show (m ++ [(⟨V, J.length, X⟩ : Hd)]).length = m.length + 1 from by simp] at ch
             subst ch
             have bf := B.chg'.heap cc (fun e => by have := (Y.lt _ e).1; omega)
             have e3 := af bf 8 rfl
             have e4 : w7.frozen? ⟨g, 8, none⟩ = false := al bf 8))))
        all_goals go_wp2_with fail
        all_goals go_meet
        all_goals have cj:=(((hO.fr ((Fr.refl wr).drew.trans U)).app Y B (by decide)).snoc (x:=⟨V,J.length,X⟩) (fX cG Y B (by decide)));refine⟨m++[⟨V,J.length,X⟩],by rw [aD,cB.out];rfl,⟨_,a8 bf 8 _,dx (i:=8) B.own bm⟩,⟨cj.1,fun t h1 h2=>dx (i:=8) (cj.2 t h1 h2) bm⟩,((G.trans (((Fr.refl wr).drew.trans U).chg (fun k=>k=g\/w.heap.size<=k)) fun _ _ h=>h).trans B.chg' fun k _ e=>.inr (Y.lt k e).1).trans (ao w7 ⟨g,8,none⟩ _) fun k _ e=>.inl e,az (az cf B.size) (ao w7 ⟨g,8,none⟩ _).size⟩
      case rest=>
        obtain⟨R,ck,cR,cl,cT,da⟩:=hcut;rw [<- c9.out]at cl;have dc:=ad ck;clear ck M hF hO G a7 b4 c8 bR b3;go_wp2_with fail;go_roundw;case rel=>exact⟨i+1,a+z,p2,c2,R,by omega,by go_num,c7.out,bA,rfl,a5.out,dc.out,cR,cl,cT,da⟩
        case measure=>simp [intOf];omega
    · obtain rfl:i=d.length:=(by omega);have i1:¬(d.length:Int)<d.length:=(by omega);have di:a=d.sum:=L.out.trans cn.out;rw [cq.out]at hO;subst di;have ba:(b.drop d.sum).length=b.length - d.sum:=aU ..;have bk:p<=(b.drop d.sum).length:=(by omega);obtain⟨cA,O⟩:=gD eB 22 Tryz.underlying22 F p bk;obtain⟨p2,c2,bL,I⟩:=iy eB 22 Tryz.underlying22 F p bk;have ef:=af M 2 rfl;have dj:=ad O;have a5:=ad I;have dr:ah (fun k=>k=g) w wr:=G.mono (G':=fun k=>k=g) fun k hk h=>(by have h:k=g\/w.heap.size<=k:=h;show k=g;omega);clear F ba bk O I L ha G;generalize (b.drop d.sum).length - p=mm at *;generalize b.length - d.sum=m1 at *;go_upto_region 7 with fail;go_quiet (fail);go_wp2_with fail;go_ret2;refine⟨_,_,rfl,?_,?_,?_,?_⟩;· exact dj.out
      · first | exact a5.out | (have h:=a5.out;rw [mF]at h;exact h)
      · exact⟨o,(Fr.drewN (Fr.refl wr) _).heap M,m,hF.fr (Fr.drewN (Fr.refl wr) _),hO.fr (Fr.drewN (Fr.refl wr) _)⟩
      · exact dr.trans (s7 (fun k=>k=g) wr _) fun _ _ h=>h
theorem ET(g:Nat)(d:List Nat)(w:World)(h o q z A B D F G I:Value)(m:w.heap[g]?=some (.cells #[h,o,q,z,A,B,D,F,G,I] 143 (0,0)))
  (hs:ai w eJ h d) (hl:d.length<=1000000) (hb:d.sum<=1000000000000000) :
  Calls Tryz.prog 128 #[.pointer (some ⟨g,0,none⟩)] w fun e J=>e=.returned (N d.sum)/\w=J:=by
 have K:=ad (uN h d w hs hl hb);obtain⟨L,M,rfl,_⟩:=hs.shape;have O:=af m 0 rfl;clear hs m;go_enter Tryz.func128, Tryz.ntmps128;go_wp2_with fail;refine(K.out).mono ?_;rintro e Q ⟨rfl,rfl⟩;go_wp2_with fail;go_ret;exact⟨rfl,rfl⟩
theorem EU(g:Nat)(d:List Nat)(w:World)(h z A B D F G I J K:Value)(m:w.heap[g]?=some (.cells #[h,z,A,B,D,F,G,I,J,K] 143 (0,0)))
  (hs:ai w eJ h d) (hl:d.length<=1000000) :
  Calls Tryz.prog 52 #[.pointer (some ⟨g,0,none⟩)] w fun e o=>∃ v,e=.returned v/\Ow o w.heap.size eJ v d/\Fr w o:=by
 have L:=ad (Sh h d w hs (by omega));obtain⟨O,Q,rfl,_⟩:=hs.shape;have R:=af m 0 rfl;clear hs m;go_enter Tryz.func52, Tryz.ntmps52;go_wp2_with fail;refine(L.out).mono ?_;rintro e U ⟨u,rfl,q,M⟩;obtain⟨V,X,rfl⟩:=q.shape';go_wp2_with fail;go_ret;exact⟨_,rfl,q,M⟩
def M3:Op:=Op.load 108 (.tmp 26)
attribute [local go_sem] M3
def fY(o:dN)(b:List UInt8):Nat:=if gF o then pD o.bu.toNat b else 9
structure iF (w:World) (g base:Nat) (B:eY):Prop where
 h : ∃ cv sv tv lv xv yv fv av, w.heap[g]? = some (.cells #[cv, sv, N B.cols, N B.index, tv, lv, xv, yv, fv, av] 143 (0, 0)) ∧ Ow w base eJ cv B.counts ∧ Ow w base eJ sv B.sizes ∧ Ow w base eQ tv B.times ∧ Ow w base eB lv B.levels ∧ Ow w base eS xv B.terms ∧
  (∃ qs,Ow w base pR yv qs/\de w base eJ qs B.lists)/\(∃ ps,Ow w base aQ fv ps/\de w base eB ps B.frames)
 ge:base<=g
theorem BF(d:Nat)(b:List UInt8):pD d b=if jJ b=0 then
  (if lN (aZ b) (fK b).length = 0 then
   (if kU (cy (aZ b)).1 (jR b) = 0 then
    (if bP (iC b) = 0 then (gE d (cy (aZ b)).1 (aS (iC b))).2.2 else bP (iC b))
    else kU (cy (aZ b)).1 (jR b))
   else lN (aZ b) (fK b).length)
 else jJ b:=rfl
theorem Dq(b:List UInt8)(m:Nat)(h:lN b m=0):(cM b).1.sum=(cy b).1/\(cM b).2.1.sum+(jq b).1+(jN b).1=m:=by
 rw [Dr]at h;split at h
 · split at h;· cases h
   · rename_i d;refine⟨tA fun e=>d (.inr (.inl e)),tA fun e=>d (.inr (.inr e))⟩
 · rename_i d;exact absurd h d
theorem El(b:List UInt8):(fK b).length<=b.length/\(aZ b).length<=b.length:=by
 refine⟨by unfold fK;rw [aG];omega,az (yq _) ?_⟩;unfold pQ;rw [aU,aG];omega
theorem Du(l:List Nat):∀ b:List UInt8,(gl l b).length=l.length:=by
 induction l with
 | nil=>intro b;rfl
 | cons z l d=>intro b;rw [gl,cd,cd,d]
theorem DV (o : dN) (v : Value) (b : List UInt8) (w : World) (hs : ai w eB v b) (hl : b.length ≤ 1000000) (ht : bK w) :
    Calls Tryz.prog 88 #[cS o,v] w fun e w'=>∃ pv,e=.returned (.tuple #[pv,.int .i64 (fY o b:Int)])/\(fY o b=0->∃ g,pv=.pointer (some ⟨g,0,none⟩)/\iF w' g w.heap.size (iP o.bu.toNat b))/\(¬fY o b=0->pv=.pointer none)/\Fr w w':=by
  have HC:=ad (fun W=>Qj o W);obtain⟨a0,hh,rfl,_⟩:=hs.shape;obtain⟨K,L,D,M,O,Q⟩:=o;have HC:Hid (∀ W,Calls Tryz.prog 64 #[.agg #[.int .i64 K,.bool L,.int .i64 D,.int .i64 M,.int .i64 O,.int .i64 Q]] W fun e w'=>e=.returned (.int .i64 (if gF ⟨K,L,D,M,O,Q⟩then 0 else 9))/\Fr W w'):=HC.out;show Calls Tryz.prog 88 #[.agg #[.int .i64 K,.bool L,.int .i64 D,.int .i64 M,.int .i64 O,.int .i64 Q],.slice a0 b.length hh] w _;show Calls _ _ _ _ fun e w'=>∃ pv,e=.returned (.tuple #[pv,.int .i64 (fY ⟨K,L,D,M,O,Q⟩ b:Int)])/\(fY ⟨K,L,D,M,O,Q⟩ b=0->∃ g,pv=.pointer (some ⟨g,0,none⟩)/\iF w' g w.heap.size (iP D.toNat b))/\(¬fY ⟨K,L,D,M,O,Q⟩ b=0->pv=.pointer none)/\Fr w w';have b6:Fr w (w.alloc (.cells #[.int .i64 K,.bool L,.int .i64 D,.int .i64 M,.int .i64 O,.int .i64 Q] 30)):=(Fr.refl w).alloc _;have cp:=a9 w (.cells #[.int .i64 K,.bool L,.int .i64 D,.int .i64 M,.int .i64 O,.int .i64 Q] 30) w.heap.size rfl;cases ho:gF ⟨K,L,D,M,O,Q⟩with
  | false=>have m:Hid (fY ⟨K,L,D,M,O,Q⟩ b=9):=(by show _=_;unfold fY;rw [ho];rfl);rw [ho]at HC;rw [m.out];clear cp;go_enter Tryz.func88, Tryz.ntmps88;go_wp2_with fail;refine(HC.out _).mono ?_;rintro e w1 ⟨rfl,bl⟩;have hi:=b6.trans bl;clear HC b6;go_wp2_with fail;go_ret2;exact⟨_,rfl,fun h=>absurd h (by decide),fun _=>rfl,hi⟩
  | true=>
    have hE:fY ⟨K,L,D,M,O,Q⟩ b=pD D.toNat b:=(by unfold fY;rw [ho];rfl);rw [ho]at HC;obtain⟨_,_,cq,ct⟩:=(uk _).1 ho;have cq:1<=D:=cq;have ct:D<=64:=ct;rw [hE];clear hE ho;obtain⟨F,hj⟩:∃ F,F=D.toNat:=⟨_,rfl⟩;obtain rfl:D=(F:Int):=(by omega);rw [Int.toNat_natCast];have hm:1<=F:=(by omega);have hn:F<=64:=(by omega);have d9:=ad (fun W (h:Fr w W)=>N4 _ b W (hs.fr h) hl (ht.fr h));have m:=ad (BF F b);obtain⟨i1,i3⟩:=El b;have dT:=ad (fun W (h:Fr w W)=>ht.fr h);clear hj cq ct hs ht;generalize hp:pD F b=R at *;go_enter Tryz.func88, Tryz.ntmps88;go_wp2_with fail;refine(HC.out _).mono ?_;rintro e w1 ⟨rfl,bl⟩;have ec:=b6.trans bl;have ef:=bl.heap cp;have eq:=ad (d9.out w1 ec);clear HC b6 cp bl d9 hp;go_wp2_with fail;refine(eq.out).mono ?_;rintro e d ⟨rv,dv,rfl,cu,er⟩;have U:=ec.trans er;have b7:=er.heap ef;clear eq ef;by_cases a7:jJ b=0
    · rw [ag a7]at m;obtain⟨c0,c1⟩:=cu a7;obtain⟨ra,rc,rfl,_⟩:=c0.shape;obtain⟨da,dc,rfl⟩:=c1.shape';have es:((jJ b:Nat):Int)=0:=(by omega);rw [es];clear cu a7 es;have c3:Fr d (d.alloc (.cells #[.slice none 0 0,.slice none 0 0,.int .i64 0,.int .i64 0,.slice none 0 0,.slice none 0 0,.slice none 0 0,.slice none 0 0,.slice none 0 0,.slice none 0 0] 143)):=(Fr.refl d).alloc _;have ev:=a9 d (.cells #[.slice none 0 0,.slice none 0 0,.int .i64 0,.int .i64 0,.slice none 0 0,.slice none 0 0,.slice none 0 0,.slice none 0 0,.slice none 0 0,.slice none 0 0] 143) d.heap.size rfl;have hq:d.heap.size<(d.alloc (.cells #[.slice none 0 0,.slice none 0 0,.int .i64 0,.int .i64 0,.slice none 0 0,.slice none 0 0,.slice none 0 0,.slice none 0 0,.slice none 0 0,.slice none 0 0] 143)).heap.size:=(by simp);have e0:=c3.heap b7;have e1:=ad (Oi d.heap.size (fK b).length _ (aZ b) _ ev (c1.see.fr c3) (by omega) (by omega));have hr:=yo (aZ b);have e2:=Dq (aZ b) (fK b).length;have HB:Hid (iP F b=⟨(cM (aZ b)).1,(cM (aZ b)).2.1,(jq (aZ b)).1,(jN (aZ b)).1,gl (cM (aZ b)).2.1 (fK b),(dY (cy (aZ b)).1 (aS (jR b))).1,(dY (cy (aZ b)).1 (aS (jR b))).2.1,(gE F (cy (aZ b)).1 (aS (iC b))).1,(gE F (cy (aZ b)).1 (aS (iC b))).2.1⟩):=rfl;have e3:Hid (((fK b).drop (cM (aZ b)).2.1.sum).take (jq (aZ b)).1=jR b):=rfl;have e4:Hid (((fK b).drop (cM (aZ b)).2.1.sum).drop (jq (aZ b)).1=iC b):=(by show _=_;unfold iC yH;rw [mF]);have c4:Hid ((iC b).length<=1000000/\(jR b).length<=1000000):=by
        refine⟨?_,?_⟩;· unfold iC;rw [aU];omega
        · unfold jR;rw [aG,aU];omega
      have jv:w.heap.size<d.heap.size:=(aM.1 b7).1;clear c3 ev c1 b7;generalize lN (aZ b) (fK b).length=dE at *;generalize (cy (aZ b)).1=n at *;generalize (cM (aZ b)).1=cs at *;generalize (cM (aZ b)).2.1=zs at *;generalize (jq (aZ b)).1=p at *;generalize (jN (aZ b)).1=q at *;generalize aZ b=j0 at *;generalize jR b=e5 at *;generalize iC b=bm at *;generalize fK b=rest at *;obtain⟨r1,_,r3,r4,r5,r6,r7,r8⟩:=hr;have hw:w.heap.size<=d.heap.size:=U.size;have eL:=ad c0;clear c0;go_wp2_with fail;have fb:Fr d (d.alloc (.cells #[.slice none 0 0,.slice none 0 0,.int .i64 0,.int .i64 0,.slice none 0 0,.slice none 0 0,.slice none 0 0,.slice none 0 0,.slice none 0 0,.slice none 0 0] 143)):=(Fr.refl d).alloc _;generalize d.alloc (.cells #[.slice none 0 0,.slice none 0 0,.int .i64 0,.int .i64 0,.slice none 0 0,.slice none 0 0,.slice none 0 0,.slice none 0 0,.slice none 0 0,.slice none 0 0] 143)=w3 at *;refine(e1.out).mono ?_;rintro e w4 ⟨rfl,fe,fh⟩;have bs:Fr d w4:=((fb.chg (fun k=>k=d.heap.size)).trans fh fun _ _ h=>h).fr (fun k hk e=>by have e:k=d.heap.size:=e;omega);have c9:=fh.heap e0 (fun e=>by have e:w.heap.size=d.heap.size:=e;omega);clear e1 e0 fb;by_cases aC:dE=0
      · rw [ag aC]at m;obtain⟨cA,fk⟩:=e2 aC;have fl:((dE:Nat):Int)=0:=(by omega);rw [fl];clear e2 aC fl;obtain⟨cv,sv,bA,cB,bB,_⟩:=fe.h;obtain⟨sa,sc,rfl⟩:=bB.shape';obtain⟨ca,cc,rfl⟩:=cB.shape';have cF:=ad (PN d.heap.size p w3.heap.size _ rest zs d w4 _ _ _ _ _ _ _ _ bA bB eL.out bs (am _) hq (by omega) (by omega) r4);rw [e3.out,e4.out]at cF;have bv:=U.trans bs;clear eL e3 e4 fe;go_wp2_with fail;refine(cF.out).mono ?_;rintro e B ⟨kv,iv,rfl,cG,cL,⟨fv,A,ap,cN,cR⟩,bx⟩;obtain⟨ka,kc,rfl,_⟩:=cG.shape;obtain⟨ia,ic,rfl,_⟩:=cL.shape;obtain⟨fa,fc,rfl⟩:=cN.shape';have fm:A.length=zs.length:=(by rw [cR.1,Du]);have h3:A.length<=20000:=(by omega);have fn:=(dy cB bA (by decide) bx).rebase (show w.heap.size<=w3.heap.size by omega);have fr:=(dy bB bA (by decide) bx).rebase (show w.heap.size<=w3.heap.size by omega);have f0:=cN.rebase (show w.heap.size<=w4.heap.size from bv.size);have f1:=cR.rebase (show w.heap.size<=w4.heap.size from bv.size);have f2:Fr d B:=((bs.chg (fun k=>k=d.heap.size)).trans bx fun _ _ h=>h).fr (fun k hk e=>by have e:k=d.heap.size:=e;omega);have f3:=bx.heap c9 (fun e=>by have e:w.heap.size=d.heap.size:=e;omega);have kr:=ad fm;clear cF cB bB bA cN cR bs bx c9 bv fm;have h4:=oE eO rfl rfl 141 Tryz.underlying141 .i64 .i64 A.length (by omega) B;have cT:Fr B (B.alloc (.cells (madeCells #[eO.z] A.length) eO.e)):=(Fr.refl B).alloc _;rw [show(eO:au Tryz.prog Bool).e=4 from rfl]at *;generalize madeCells #[eO.z] A.length=T0 at *;have c8:=af ap 8 rfl;have bL:=cT.heap ap;have e9:(B.alloc (.cells T0 4)).cell? ⟨d.heap.size,9,none⟩=some (.slice none 0 0):=(by rw [aA bL];rfl);have f9:(B.alloc (.cells T0 4)).frozen? ⟨d.heap.size,9,none⟩=false:=al bL 9;have Y:=a8 bL 9 (.slice (some ⟨B.heap.size,0,none⟩) A.length A.length);have f4:=ao (B.alloc (.cells T0 4)) ⟨d.heap.size,9,none⟩ (.slice (some ⟨B.heap.size,0,none⟩) A.length A.length);have a1:ah (fun k=>k=d.heap.size) B ((B.alloc (.cells T0 4)).setCell ⟨d.heap.size,9,none⟩ (.slice (some ⟨B.heap.size,0,none⟩) A.length A.length)):=(cT.chg _).trans f4 fun _ _ h=>h;have di:=dy fn ap (by decide) a1;have f5:=dy fr ap (by decide) a1;have fB:=dy f0 ap (by decide) a1;have fC:=oA f1 ap (by decide) a1;have fD:=a1.heap f3 (fun e=>by have e:w.heap.size=d.heap.size:=e;omega);have b0:Fr d ((B.alloc (.cells T0 4)).setCell ⟨d.heap.size,9,none⟩ (.slice (some ⟨B.heap.size,0,none⟩) A.length A.length)):=((f2.chg (fun k=>k=d.heap.size)).trans a1 fun _ _ h=>h).fr (fun k hk e=>by have e:k=d.heap.size:=e;omega);clear cT bL f4 fn fr f0 f1 f3 f2 a1 ap;go_upto_region 13 with fail;generalize (B.alloc (.cells T0 4)).setCell ⟨d.heap.size,9,none⟩ (.slice (some ⟨B.heap.size,0,none⟩) A.length A.length)=w7 at *;clear h4 c8 e9 f9 h3;obtain⟨av,fN⟩:∃ av,av=Value.slice (some ⟨B.heap.size,0,none⟩) A.length A.length:=⟨_,rfl⟩;have Y:w7.heap[d.heap.size]?=some (.cells #[.slice ca cs.length cc,.slice sa zs.length sc,N p,N q,.slice none 0 0,.slice none 0 0,.slice none 0 0,.slice none 0 0,.slice fa A.length fc,av] 143 (0,0)):=(by rw [fN];exact Y);clear fN;have a2:=ad (fun W (h:Fr w7 W)=>ET d.heap.size cs W _ _ _ _ _ _ _ _ _ _ (h.heap Y) (di.see.fr h) (by omega) (by omega));rw [cA]at a2;have h8:=c4.out;have fP:=ad (fun W (h:Fr w7 W)=>Pa d.heap.size n r1 _ e5 W _ _ _ _ _ _ _ _ (h.heap Y) (cG.fr (b0.trans h)) h8.2 (dT.out W ((U.trans b0).trans h)));have h9:=ad cA;have ks:=ad fk;clear cG cA fk;generalize hA:kU n e5=cE at *
        go_region_held3 (fun _ => True) (first | trivial | go_keep)
          ((first
            | (go_at_call 128; refine (a2.out _ (by first | exact Fr.refl _ | exact (Fr.refl _).drew)).mono ?_; rintro e wx ⟨rfl, rfl⟩)
            | (go_at_call 127; refine (fP.out _ (by first | exact Fr.refl _ | exact (Fr.refl _).drew)).mono ?_; rintro e w8 ⟨rfl, fQ, dr⟩)))
        have a3:ah (fun k=>k=d.heap.size) w7 w8:=(by first | exact dr | exact(((Fr.refl w7).drew.chg (fun k=>k=d.heap.size)).trans dr fun _ _ h=>h));have b1:Fr d w8:=((b0.chg (fun k=>k=d.heap.size)).trans a3 fun _ _ h=>h).fr (fun k hk e=>by have e:k=d.heap.size:=e;omega);have ds:=a3.heap fD (fun e=>by have e:w.heap.size=d.heap.size:=e;omega);have fS:=dy di Y (by decide) a3;have ga:=dy f5 Y (by decide) a3;have gb:=dy fB Y (by decide) a3;have gc:=oA fC Y (by decide) a3;have ge:w.heap.size<=w7.heap.size:=(U.trans b0).size;clear a2 fP di f5 fB fC fD b0 Y dr a3;by_cases bc:cE=0
        · rw [ag bc]at m;obtain⟨tu,lu,gg,cb,cf⟩:=fQ bc;have cb:=cb.rebase (show w.heap.size<=_ from ge);have cf:=cf.rebase (show w.heap.size<=_ from ge);have gi:((cE:Nat):Int)=0:=(by omega);rw [gi];clear fQ bc gi hA;have gs:=ad (oQ _ bm w8 (cL.fr b1) c4.out.1 (dT.out w8 (U.trans b1)));generalize hG:bP bm=xE at *;have hH:(aS bm).length<=1000000:=az (yq bm) c4.out.1;generalize aS bm=xq at *;clear cL;go_wp2_with fail;refine(gs.out).mono ?_;rintro e w9 ⟨xu,rfl,d0,Z⟩;obtain⟨xa,xc,rfl⟩:=d0.shape';have d1:=b1.trans Z;have d2:=Z.heap gg;have cj:=Z.heap ds;have d3:=fS.fr Z;have g0:=ga.fr Z;have g1:=gb.fr Z;have g2:=gc.fr Z;have g3:=cb.fr Z;have g4:=cf.fr Z;clear gs b1 gg ds fS ga gb gc cb cf hG;by_cases b2:xE=0
          · rw [ag b2]at m;have g5:((xE:Nat):Int)=0:=(by omega);rw [g5];have d4:w.heap.size<=w9.heap.size:=(U.trans d1).size;have a2:=ad (fun W (h:Fr w9 W)=>ET d.heap.size cs W _ _ _ _ _ _ _ _ _ _ (h.heap d2) (d3.see.fr h) (by omega) (by omega));rw [h9.out]at a2;have g7:=ad (fun W (h:Fr w9 W)=>RL F n hm hn r1 _ xq W (d0.see.fr h) hH);have x2:=af cj 2 rfl;clear b2 g5 d0;generalize gE F n xq=X at *;go_upto_region 19 with fail
            go_region_held3 (fun W => W.cell? ⟨w.heap.size, 2, none⟩ = some (N F)) (first | exact g8 | exact g9 _ | exact gO _ _ | go_keep)
              ((first
                | (go_at_call 128; refine (a2.out _ (by first | exact Fr.refl _ | exact (Fr.refl _).drew)).mono ?_; rintro e wx ⟨rfl, rfl⟩)
                | (go_at_call 129; refine (g7.out _ (by first | exact Fr.refl _ | exact (Fr.refl _).drew)).mono ?_; rintro e I ⟨qt, ql, rfl, d5, ⟨qs, d6, ha⟩, b3⟩
                   obtain ⟨qa, qc, rfl⟩ := d5.shape'
                   obtain ⟨la, lc, rfl⟩ := d6.shape'
                   have G := b3.heap (show w9.drew.heap[d.heap.size]? = _ from d2)
                   have ck := b3.heap (show w9.drew.heap[w.heap.size]? = _ from cj)
                   have g8 := af ck 2 rfl
                   have g9 : ∀ u, (I.setCell ⟨d.heap.size, 6, none⟩ u).cell? ⟨w.heap.size, 2, none⟩ = some (N F) := fun u => by rw [aA ((ao I ⟨d.heap.size, 6, none⟩ u).heap ck (fun e => by have e : w.heap.size = d.heap.size := e; omega))]; rfl
                   have gO : ∀ u z, ((I.setCell ⟨d.heap.size, 6, none⟩ u).setCell ⟨d.heap.size, 7, none⟩ z).cell? ⟨w.heap.size, 2, none⟩ = some (N F) := fun u z => by rw [aA ((ao (I.setCell ⟨d.heap.size, 6, none⟩ u) ⟨d.heap.size, 7, none⟩ z).heap ((ao I ⟨d.heap.size, 6, none⟩ u).heap ck (fun e => by have e : w.heap.size = d.heap.size := e; omega)) (fun e => by have e : w.heap.size = d.heap.size := e; omega))]; rfl
                   have e6 := af G 6 rfl
                   have e7 := af G 7 rfl
                   have f6 : I.frozen? ⟨d.heap.size, 6, none⟩ = false := al G 6
                   have f7 : I.frozen? ⟨d.heap.size, 7, none⟩ = false := al G 7)))
            have hb:=a8 G 6 (.slice qa X.1.length qc);have hO:=a8 hb 7 (.slice la qs.length lc);have hc:=ao I ⟨d.heap.size,6,none⟩ (.slice qa X.1.length qc);have hd:=ao (I.setCell ⟨d.heap.size,6,none⟩ (.slice qa X.1.length qc)) ⟨d.heap.size,7,none⟩ (.slice la qs.length lc);have V:ah (fun k=>k=d.heap.size) I ((I.setCell ⟨d.heap.size,6,none⟩ (.slice qa X.1.length qc)).setCell ⟨d.heap.size,7,none⟩ (.slice la qs.length lc)):=hc.trans hd fun _ _ h=>h;have ac:Fr w9 I:=(by first | exact b3 | exact(Fr.refl w9).drew.trans b3);have hR:=dy (d5.rebase (show w.heap.size<=_ from d4)) G (by decide) V;have hS:=dy (d6.rebase (show w.heap.size<=_ from d4)) G (by decide) V;have hT:=oA (ha.rebase (show w.heap.size<=_ from d4)) G (by decide) V;have hU:=dy (d3.fr ac) G (by decide) V;have hV:=dy (g0.fr ac) G (by decide) V;have hW:=dy (g1.fr ac) G (by decide) V;have hY:=oA (g2.fr ac) G (by decide) V;have hZ:=dy (g3.fr ac) G (by decide) V;have ih:=dy (g4.fr ac) G (by decide) V;have he:Fr w ((I.setCell ⟨d.heap.size,6,none⟩ (.slice qa X.1.length qc)).setCell ⟨d.heap.size,7,none⟩ (.slice la qs.length lc)):=(((U.trans (d1.trans ac)).chg (fun k=>k=d.heap.size)).trans V fun _ _ h=>h).fr (fun k hk e=>by have e:k=d.heap.size:=e;omega);clear g8 g9 gO e6 e7 f6 f7 hb hc hd V G ck d5 d6 ha d3 g0 g1 g2 g3 g4 d2 cj x2 a2 g7 b3 ac;generalize (I.setCell ⟨d.heap.size,6,none⟩ (.slice qa X.1.length qc)).setCell ⟨d.heap.size,7,none⟩ (.slice la qs.length lc)=k6 at *;by_cases cl:X.2.2=0;· have J:Hid (R=0):=m.out.trans cl;have i2:((X.2.2:Nat):Int)=0:=(by omega);rw [i2];clear m cl i2;go_wp2_with fail;go_ret2;exact⟨_,by rw [J.out];rfl,fun _=>⟨d.heap.size,rfl,⟨by rw [HB.out];exact⟨_,_,_,_,_,_,_,_,hO,hU,hV,hZ,ih,hR,⟨qs,hS,hT⟩,⟨A,hW,hY⟩⟩,hw⟩⟩,fun h=>absurd J.out h,he⟩
            · have i2:¬(X.2.2:Int)=0:=(by omega);have aa:¬R=0:=(by rw [m.out];exact cl);have J:Hid (R=X.2.2):=m.out;clear m cl;go_wp2_with fail;go_ret2;exact⟨_,by rw [J.out];rfl,fun h=>absurd h aa,fun _=>rfl,he⟩
          · rw [ae b2]at m;have i2:¬(xE:Int)=0:=(by omega);have aa:¬R=0:=(by rw [m.out];exact b2);have J:Hid (R=xE):=m.out;have ij:=U.trans d1;clear m cj b2;go_wp2_with fail;go_ret2;exact⟨_,by rw [J.out];rfl,fun h=>absurd h aa,fun _=>rfl,ij⟩
        · rw [ae bc]at m;have i2:¬(cE:Int)=0:=(by omega);have aa:¬R=0:=(by rw [m.out];exact bc);have J:Hid (R=cE):=m.out;have i0:=U.trans b1;clear m ds bc;go_wp2_with fail;go_ret2;exact⟨_,by rw [J.out];rfl,fun h=>absurd h aa,fun _=>rfl,i0⟩
      · rw [ae aC]at m;have i2:¬(dE:Int)=0:=(by omega);have aa:¬R=0:=(by rw [m.out];exact aC);have J:Hid (R=dE):=m.out;have bv:=U.trans bs;clear m c9 aC;go_wp2_with fail;go_ret2;exact⟨_,by rw [J.out];rfl,fun h=>absurd h aa,fun _=>rfl,bv⟩
    · rw [ae a7]at m;have i2:¬(jJ b:Int)=0:=(by omega);have aa:¬R=0:=(by rw [m.out];exact a7);have J:Hid (R=jJ b):=m.out;clear m cu b7 a7;go_wp2_with fail;go_ret2;exact⟨_,by rw [J.out];rfl,fun h=>absurd h aa,fun _=>rfl,U⟩
def dV(b:List UInt8):Nat:=if(bw b).1=0 then fY (bY (ax b)) (bw b).2.1 else(bw b).1
def ul(b:List UInt8):dN:=if dV b=0 then bY (ax b)else⟨0,false,0,0,0,0⟩
def nB(b:List UInt8):Nat:=if dV b=0 then(bw b).2.2 else 0
def gZ(b:List UInt8):eY:=iP (jm (ax b)) (bw b).2.1
theorem QN (v : Value) (b : List UInt8) (w : World) (hs : ai w eB v b) (hl : b.length ≤ 6000) (ht : bK w) :
    Calls Tryz.prog 53 #[v] w fun e L=>∃ pv,e=.returned (.tuple #[cS (ul b),pv,N (nB b),.int .i64 (dV b:Int)])/\(dV b=0->∃ g,pv=.pointer (some ⟨g,0,none⟩)/\iF L g w.heap.size (gZ b))/\(¬dV b=0->pv=.pointer none)/\Fr w L:=by
  have HM:=ad (fun W (h:Fr w W)=>LC v b W (hs.fr h) hl (ht.fr h));have bc:=ad (fun W (h:Fr w W)=>ht.fr h);have a1:(Tryz.prog.info? 30).map (·.size)=some aq.size:=(by kernel_rfl);have bv:aq.all (·.oneCell')=true:=(by rw [dP];rfl);have a2:(w.alloc (.cells aq 30)).heap[w.heap.size]?=some (.cells aq 30 (0,0)):=a9 _ _ _ rfl;have a3:Fr w (w.alloc (.cells aq 30)):=(Fr.refl w).alloc _;have da:w.heap.size<(w.alloc (.cells aq 30)).heap.size:=(by simp);obtain⟨a0,ch,rfl,_⟩:=hs.shape;clear hs ht;have V:=ad (HM.out _ a3);generalize dc:w.alloc (.cells aq 30)=W0 at *;have J:dV b=if(bw b).1=0 then fY (bY (ax b)) (bw b).2.1 else(bw b).1:=rfl;by_cases M:(bw b).1=0
  · obtain⟨ho,ck,cl,_⟩:=yE b M;rw [ag M]at J;have X:nB b=if dV b=0 then(bw b).2.2 else 0:=rfl;have Y:ul b=if dV b=0 then bY (ax b)else⟨0,false,0,0,0,0⟩:=rfl;have bx:Hid (cS (bY (ax b))=.agg #[N (lK (ax b)),.bool (hP (ax b)),N (jm (ax b)),N (hD (ax b)),N (hQ (ax b)),N (hC (ax b))]):=rfl;have a4:=ad (fun v W (h:Fr w W) (m:ai W eB v (bw b).2.1)=>DV (bY (ax b)) v (bw b).2.1 W m (by omega) (bc.out W h));rw [<- J,bx.out]at a4;have b0:Hid (iP (bY (ax b)).bu.toNat (bw b).2.1=gZ b):=(by show iP ((jm (ax b):Int)).toNat _=_;rw [Int.toNat_natCast];rfl);rw [b0.out]at a4;have b1:(((bw b).1:Nat):Int)=0:=(by omega);rw [b1]at V;have b2:=V.out;have b3:Hid (Calls Tryz.prog 92 #[.slice a0 b.length ch] W0 fun e L=>∃ g Q u,e=.returned (.tuple #[.pointer (some ⟨g,0,none⟩),u,N (bw b).2.2,.int .i64 0])/\Ow L W0.heap.size eB u (bw b).2.1/\Fr W0 L/\L.heap[g]?=some (qT (lK (ax b)) (hP (ax b)) (jm (ax b)) (hD (ax b)) (hQ (ax b)) (hC (ax b)) (hN (ax b)) Q)):=b2.mono fun e L h=>(by obtain⟨hv,u,z,m,B,D⟩:=h;obtain⟨g,Q,F,_,G⟩:=D M;exact⟨g,Q,u,by rw [z,F],m,B,G⟩);clear b1 b2 V HM J ho ck cl bc b0;rw [X,Y];clear X Y;generalize dV b=Z at *;generalize gZ b=OB at *;have b4:cS (if Z=0 then bY (ax b)else⟨0,false,0,0,0,0⟩)=.agg (if Z=0 then #[N (lK (ax b)),.bool (hP (ax b)),N (jm (ax b)),N (hD (ax b)),N (hQ (ax b)),N (hC (ax b))]else aq):=(by split <;> rfl);rw [b4];generalize lK (ax b)=z at *;generalize hP (ax b)=m at *;generalize jm (ax b)=B at *;generalize hD (ax b)=D at *;generalize hQ (ax b)=F at *;generalize hC (ax b)=G at *;generalize hN (ax b)=h7 at *;generalize bw b=BR at *;clear M b4 bx;go_enter Tryz.func53, Tryz.ntmps53;go_upto_region 1 with fail;go_wp2_with fail;refine(b3.out).mono ?_;rintro e w1 ⟨g,Q,u,rfl,hU,R,K⟩;obtain⟨ua,uc,rfl⟩:=hU.shape';have ab:=R.heap a2;have bk:=a3.trans R;have d0:=af K 0 rfl;have d1:=af K 1 rfl;have d2:=af K 2 rfl;have d3:=af K 3 rfl;have d4:=af K 4 rfl;have d5:=af K 5 rfl;have bB:=ad (a4.out _ w1 bk hU.see);clear b3 a4 hU a2;go_wp2_with fail;refine(bB.out).mono ?_;rintro e O ⟨pv,rfl,bl,bm,bs⟩;have d:=bs.heap ab;have U:=bs.heap K;have a6:=bk.trans bs;clear bB K ab d0 d1 d2 d3 d4 d5;by_cases he:Z=0
    · obtain⟨q,rfl,hB⟩:=bl he;have d0:=af U 0 rfl;have d1:=af U 1 rfl;have d2:=af U 2 rfl;have d3:=af U 3 rfl;have d4:=af U 4 rfl;have d5:=af U 5 rfl;have cp:(#[N z,.bool m,N B,N D,N F,N G]:Array Value).all (·.oneCell')=true:=(by rw [dP];rfl);have bR:(Tryz.prog.info? 30).map (·.size)=some (#[N z,.bool m,N B,N D,N F,N G]:Array Value).size:=(by kernel_rfl);have hG:=cP O w.heap.size aq #[N z,.bool m,N B,N D,N F,N G] 30 (0,0) d;have o:=bC O w.heap.size #[N z,.bool m,N B,N D,N F,N G];have aj:Fr w (O.setRow w.heap.size #[N z,.bool m,N B,N D,N F,N G]):=ah.below a6 o a6.size (fun k hk=>by omega);have cq:iF (O.setRow w.heap.size #[N z,.bool m,N B,N D,N F,N G]) q w.heap.size OB:=by
        obtain⟨⟨cv,sv,tv,lv,Q,yv,fv,av,k0,k1,k2,k3,k4,k5,⟨qs,k6,k7⟩,⟨ps,k8,k9⟩⟩,ca⟩:=hB;have I:=bk.size;have cL:q≠w.heap.size:=by have:=ca;have h0:=(aM.1 (show O.heap[w.heap.size]?=_ from d)).1;intro e;rw [e,d]at k0;have cN:=jy k0;injection cN with _ k01;exact absurd k01 (by decide)
        exact ⟨⟨cv, sv, tv, lv, Q, yv, fv, av, o.heap k0 cL, dy (k1.rebase I) d (by decide) o, dy (k2.rebase I) d (by decide) o, dy (k3.rebase I) d (by decide) o, dy (k4.rebase I) d (by decide) o, dy (k5.rebase I) d (by decide) o,
          ⟨qs, dy (k6.rebase I) d (by decide) o, oA (k7.rebase I) d (by decide) o⟩, ⟨ps, dy (k8.rebase I) d (by decide) o, oA (k9.rebase I) d (by decide) o⟩⟩, az I ca⟩
      clear bl bm hB o;go_wp2_with (first | (refine bS rfl 30 (.tmp 2) (.tmp 38) rfl w.heap.size #[N z,.bool m,N B,N D,N F,N G] rfl rfl 30 _ d bR rfl cp ?_));go_wp2_with fail;(try simp only [Exit.inBlock,Exit.then]);refine aL (v:=.tuple #[.agg #[N z,.bool m,N B,N D,N F,N G],.pointer (some ⟨q,0,none⟩),N BR.2.2,.int .i64 0]) (wK Tryz.results53 _ _ w.heap.size 30 _ (0,0) _ _ _ _ rfl rfl rfl rfl hG Tryz.underlying30 rfl bR) rfl ?_;exact⟨_,rfl,⟨q,rfl,cq⟩,aj⟩
    · have cR:=bm he;subst cR;have i2:¬(Z:Int)=0:=(by omega);have hG:=cP O w.heap.size aq aq 30 (0,0) d;have aj:Fr w (O.setRow w.heap.size aq):=ah.below a6 (bC _ _ _) a6.size (fun k hk=>by omega);have cb:=ad he;clear bl bm he;go_wp2_with (first | (refine bS rfl 30 (.tmp 2) (.tmp 33) rfl w.heap.size aq rfl rfl 30 _ d a1 rfl bv ?_));go_wp2_with fail;(try simp only [Exit.inBlock,Exit.then]);refine aL (v:=.tuple #[.agg aq,.pointer none,.int .i64 0,.int .i64 (Z:Int)]) (wK Tryz.results53 _ _ w.heap.size 30 _ (0,0) _ _ _ _ rfl rfl rfl rfl hG Tryz.underlying30 rfl a1) rfl ?_;exact⟨_,rfl,rfl,aj⟩
  · rw [ae M]at J;have ak:¬dV b=0:=(by rw [J];exact M);have X:nB b=0:=(by unfold nB;rw [ae ak]);have Y:ul b=⟨0,false,0,0,0,0⟩:=(by unfold ul;rw [ae ak]);rw [X,Y,J];rw [J]at ak;have i2:¬((bw b).1:Int)=0:=(by omega);clear J X Y;generalize bw b=BR at *;have cb:=ad ak;clear M ak bc;go_enter Tryz.func53, Tryz.ntmps53;go_upto_region 1 with fail;go_wp2_with fail;refine(V.out).mono ?_;rintro e w1 ⟨hv,u,rfl,hU,R,_⟩;have ab:=R.heap a2;have hG:=cP w1 w.heap.size aq aq 30 (0,0) ab;have aj:Fr w (w1.setRow w.heap.size aq):=ah.below (a3.trans R) (bC _ _ _) (a3.trans R).size (fun k hk=>by omega);clear HM V a2 hU;go_wp2_with (first | (refine bS rfl 30 (.tmp 2) (.tmp 20) rfl w.heap.size aq rfl rfl 30 _ ab a1 rfl bv ?_));go_wp2_with fail;(try simp only [Exit.inBlock,Exit.then]);refine aL (v:=.tuple #[.agg aq,.pointer none,.int .i64 0,.int .i64 (BR.1:Int)]) (wK Tryz.results53 _ _ w.heap.size 30 _ (0,0) _ _ _ _ rfl rfl rfl rfl hG Tryz.underlying30 rfl a1) rfl ?_;exact⟨_,rfl,fun h=>absurd h cb.out,fun _=>rfl,aj⟩
end Go.Proofs.YtfpijnhhdfoohaaGreatDoor
