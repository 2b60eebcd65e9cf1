/- Lemmas for ThreeTurned. -/
import Derived.Test.YtndbpldeabnkbaaGreatDoorM44
import Derived.Test.YtndbpldeabnkbaaGreatDoorM38
set_option linter.all false
set_option maxHeartbeats 8000000
set_option maxRecDepth 100000
namespace Go.Proofs.YtndbpldeabnkbaaGreatDoor
open Go.RowKit Go.Fk
def An{P:Program}{o:Func}{p q:Tmp}{e:TypeId}(h:o.results=#[.cell p e,.tmp q])(tmps:Array Value)(w:World)(g:Nat)(t:TypeId)(m:Array Value)(z:Nat × Nat)(d:TypeDesc)(v:Value)
  (hp:tmps.getD p undef=.pointer (some ⟨g,0,none⟩)) (hq:tmps.getD q undef=v) (hg:w.heap[g]?=some (.cells m t z))
  (hu:P.underlying e=some d) (hd:(match d with | .struct _ | .array _ _=>true | _=>false)=true) (hi:(P.info? e).map (·.size)=some m.size) :
  (results o tmps).run P w=.ok (.tuple #[.agg m,v]) w:=by
 have A:tmps[p]?.getD undef=.pointer (some ⟨g,0,none⟩):=by simpa using hp
 have D:tmps[q]?.getD undef=v:=by simpa using hq
 simp[results,h,A,D,asAddr,vY w g t e m z d hg hu hd hi]
abbrev kt:Array Value:=#[.slice none 0 0,.slice none 0 0]
def TQ(b:Z0)(size n:Nat)(l:List Nat):∀(i:Nat) (s:Cs) (t:List Z0),(∀x∈t,x.length<=25)->(gN b size n l i s t).1.length<=t.length+l.length*size:=by
 induction l with
 | nil=>intro i s t _;show t.length<=_;omega
 | cons k r d=>
  intro i s t h;rw[gN];have e:=GU (s.take b k).1 (min size (n-i*size)) 0 ⟨0,0⟩ t h;split
  ·split;·have:=d (i+1) (s.take b k).2 _ e.1;rw[aL,jW];omega
   ·exact ar _
  ·exact ar _
def Hq(size:Nat)(b:Z0)(z:1<=size)(d:size<=64):(dn size b).1.length<=100000000:=by
 have A:(ey b).1<=1048576:=by
  show Cs.val _ _<=_;unfold Cs.val;split;·rename_i h;exact(nz _ _ h.2).2.2
  ·exact ar _
 have e:=Dz b (((ey b).1+size-1) / size) (ey b).2 [];have D:((ey b).1+size-1) / size<=1048640:=ay (kF _ _) ω;have hD:=TQ b size (ey b).1 (oh size b).1 0 (oh size b).2 [] (λx m=>(iU m).elim);have o:(oh size b).1.length<=1048640:=by unfold oh;simp at e;omega
 have F:(oh size b).1.length*size<=1048640*64:=bH o d;unfold dn;split;·show(gN b size (ey b).1 (oh size b).1 0 (oh size b).2 []).1.length<=_;simp at hD;omega
 ·exact ar _
def Mh(b:Z0)(k:Nat):∀(s:Cs) (l:List Nat),s.at_<=b.length->(iu b k s l).2.at_<=b.length:=by
 induction k with
 | zero=>intro s l h;exact h
 | succ k d=>
  intro s l h;rw[iu];split;·exact d _ _ (Cs.int_le s b 2000 h)
  ·exact h
def TT(b:Z0)(size n:Nat)(l:List Nat):∀(i:Nat) (s:Cs) (t:List Z0),s.at_<=b.length->(gN b size n l i s t).2.1.at_<=b.length:=by
 induction l with
 | nil=>intro i s t h;exact h
 | cons k r e=>
  intro i s t h;rw[gN];have d:=Cs.take_le s b k h;split
  ·split;·exact e _ _ _ d
   ·exact d
  ·exact d
def TO(size:Nat)(b:Z0):(dn size b).2.1<=b.length:=by
 unfold dn;split;·exact TT b size _ _ _ _ _ (Mh b _ _ _ (Cs.int_le ⟨0,0⟩ b 1048576 (ar _)))
 ·exact ar _
def Xf(size d:Nat)(h1:1<=size)(h2:size<=64)(hb:d<=20000)(v:Value)(b:Z0)(w:World)(Y:ah w eB v b)(hl:b.length<=1000000):Calls Tryz.prog 92 #[N size,N d,v] w λe w'=>∃tv lv,e=.returned (.tuple #[.agg #[tv,lv],.int .i64 ((iY size d b).2.2:Int)])/\Ow w' w.heap.size eS tv (iY size d b).1/\(∃m,Ow w' w.heap.size rW lv m/\cr w' w.heap.size eJ m (iY size d b).2.1)/\Fr w w':=by
 have bf:=ad (λW (hf:Fr w W)=>XJ size h1 h2 v b W (Y.fr hf) hl);have bk:=Hq size b h1 h2;have cb:=TO size b;have I:Hid (iY size d b=if(dn size b).2.2=0 then(if(gX d (b.drop (dn size b).2.1) (dn size b).1.length 0 []).2=0 then((dn size b).1,(gX d (b.drop (dn size b).2.1) (dn size b).1.length 0 []).1,0)else([],[],(gX d (b.drop (dn size b).2.1) (dn size b).1.length 0 []).2))else([],[],(dn size b).2.2)):=rfl;have HS:=ad Y;have b1:¬(d:Int)<0:=ω
 have b2:¬(20000:Int)<d:=ω
 have M:(Tryz.prog.info? 84).map (·.size)=some kt.size:=by kernel_rfl
 have bm:kt.all (·.oneCell')=true:=by rw[iI];rfl
 have ap:(w.alloc (.cells kt 84)).heap[w.heap.size]?=some (.cells kt 84 (0,0)):=aB _ _ _ rfl;have av:Fr w (w.alloc (.cells kt 84)):=(Fr.refl w).alloc _;obtain⟨a0,cu,rfl,_⟩:=Y.shape;clear Y;have bn:=ad (bf.out _ av);generalize iY size d b=R at *;have HD:Hid (dn size b=((dn size b).1,(dn size b).2.1,(dn size b).2.2)):=rfl;generalize (dn size b).2.2=er,(dn size b).2.1=at_,(dn size b).1=T at *;clear bf HD;generalize cf:w.alloc (.cells kt 84)=W0 at *;have cv:=av.size;go_in;go_upto_region 1 with fail;clear cf;go_wp2_with fail;apply bn.z;rintro e J ⟨pv,rfl,bs,a2⟩;have Z:=bs.heap ap;have K:=av.trans bs;have c1:w.heap.size<W0.heap.size:=(aR.1 ap).1;clear bn ap;by_cases he:er=0
 ·rw[af he]at I;obtain⟨g,base,bu,rfl,c3,hD⟩:=a2 he;clear a2;have HD:=ad hD;have bv:=ad (λW (h:Fr J W)=>XK g base size T bu W (hD.fr h));have bx:=ad (λW (h:Fr J W)=>XL g base size T bu W (hD.fr h) bk);obtain⟨f1,f2,c6,b0⟩:=lK eB 30 Tryz.underlying30 HS.out at_ cb;have b3:(b.drop at_).length<=1000000:=(by rw[aN];omega);have b4:=ad (λW (h:Fr J W)=>OL T.length d hb _ (b.drop at_) W (b0.fr (K.trans h)) b3 bk);clear b0 b3 hD;generalize b.length-at_=bl at *;generalize gX d (b.drop at_) T.length 0 []=L at *;go_upto_region 6 with fail
  go_region_held3 (λ_ => True)
   (first | trivial | go_keep)
   ((first
     | (go_at_call 139; refine (bv.out _ (by first | exact Fr.refl _ | exact (Fr.refl _).drew)).mono ?_; rintro e O ⟨rfl, rfl⟩)
     | (go_at_call 138; refine (b4.out _ (by first | exact Fr.refl _ | exact (Fr.refl _).drew)).mono ?_; rintro e O ⟨lu, rfl, ⟨m, a4, b5⟩, b6⟩; obtain ⟨D, F, cj⟩ := a4.shape'; subst cj)))
  have a5:Fr J O:=(by first | exact b6 | exact((Fr.refl J).drew).trans b6);have a6:=a5.heap Z;have aa:=K.trans a5;have b7:=ad (bx.out O a5);have b8:=a4.rebase (show w.heap.size<=_ from K.size);have b9:=b5.rebase (show w.heap.size<=_ from K.size);clear bv b4 bx a4 b5 Z HD;by_cases ab:L.2=0;·rw[af ab]at I;have a7:((L.2:Nat):Int)=0:=ω;rw[a7];clear ab a7;go_wp2_with fail;apply b7.z;rintro e w4 ⟨tu,rfl,ac,aj⟩;obtain⟨o,z,rfl⟩:=ac.shape';have Q:=aj.heap a6;have bA:=aa.trans aj;have ck:(#[Value.slice o T.length z,.slice D m.length F]:Array Value).all (·.oneCell')=true:=(by rw[iI];rfl);have cl:(Tryz.prog.info? 84).map (·.size)=some (#[Value.slice o T.length z,.slice D m.length F]:Array Value).size:=(by kernel_rfl);have U:=iq w4 w.heap.size kt #[.slice o T.length z,.slice D m.length F] 84 (0,0) Q;have V:=dl w4 w.heap.size #[.slice o T.length z,.slice D m.length F];have X:=ai.below bA V bA.size (λk G=>by omega);have cm:Ow (w4.setRow w.heap.size #[.slice o T.length z,.slice D m.length F]) w.heap.size eS (.slice o T.length z) T:=(ac.rebase aa.size).chg V (λk G e=>ac.ne_cells Q δ (by rw[G,show k=w.heap.size from e]));have aC:=b8.fr aj;have cn:=aC.chg V (λk G e=>aC.ne_cells Q δ (by rw[G,show k=w.heap.size from e]));have ak:=b9.fr aj;have cp:cr (w4.setRow w.heap.size #[.slice o T.length z,.slice D m.length F]) w.heap.size eJ m L.1:=⟨ak.1,λi x1 x2=>(ak.2 i x1 x2).chg V (λk G e=>(ak.2 i x1 x2).ne_cells Q δ (by rw[G,show k=w.heap.size from e]))⟩;clear b7 b8 b9 aC ak ac V;go_wp2_with (first | (refine fz rfl 84 (.tmp 6) (.tmp 47) rfl w.heap.size #[.slice o T.length z,.slice D m.length F] rfl rfl 84 _ Q M rfl ck ?_));go_wp2_with fail;(try simp only[Exit.inBlock,Exit.then]);refine bF (v:=.tuple #[.agg #[.slice o T.length z,.slice D m.length F],.int .i64 0]) (An Tryz.results92 _ _ w.heap.size 84 _ (0,0) _ _ rfl rfl U Tryz.underlying84 rfl cl) rfl ?_;rw[I.out];exact⟨_,_,rfl,cm,⟨m,cn,cp⟩,X⟩
  ·rw[ae ab]at I;have a7:¬(L.2:Int)=0:=ω;have U:=iq O w.heap.size kt kt 84 (0,0) a6;have X:Fr w (O.setRow w.heap.size kt):=ai.below aa (dl _ _ _) aa.size (λk G=>by omega);clear ab;go_wp2_with (first | (refine fz rfl 84 (.tmp 6) (.tmp 42) rfl w.heap.size kt rfl rfl 84 _ a6 M rfl bm ?_));go_wp2_with fail;(try simp only[Exit.inBlock,Exit.then]);refine bF (v:=.tuple #[.agg kt,.int .i64 (L.2:Int)]) (An Tryz.results92 _ _ w.heap.size 84 _ (0,0) _ _ rfl rfl U Tryz.underlying84 rfl M) rfl ?_;rw[I.out];exact⟨_,_,rfl,Ow.nil,⟨[],Ow.nil,⟨rfl,λt h=>by simp at h⟩⟩,X⟩
 ·rw[ae he]at I;have cB:¬(er:Int)=0:=ω;clear a2;go_wp2_with (first | (refine fz rfl 84 (.tmp 6) (.tmp 28) rfl w.heap.size kt rfl rfl 84 _ Z M rfl bm ?_));have U:=iq J w.heap.size kt kt 84 (0,0) Z;have X:Fr w (J.setRow w.heap.size kt):=ai.below K (dl _ _ _) K.size (λk G=>by omega);go_wp2_with fail;(try simp only[Exit.inBlock,Exit.then]);refine bF (v:=.tuple #[.agg kt,.int .i64 (er:Int)]) (An Tryz.results92 _ _ w.heap.size 84 _ (0,0) _ _ rfl rfl U Tryz.underlying84 rfl M) rfl ?_;rw[I.out];exact⟨_,_,rfl,Ow.nil,⟨[],Ow.nil,⟨rfl,λt h=>by simp at h⟩⟩,X⟩
def Rk(q:Z0)(h:q.length=4):cU q<4294967296:=by
 have:=rQ q;rw[h]at this;exact this
def S9(v:Value)(b:Z0)(w:World)(F:ah w eB v b)(hl:b.length<=1000000)(ht:cP w):Calls Tryz.prog 86 #[v] w λe w'=>∃V X,e=.returned (.tuple #[V,X,.int .i64 (kQ b:Int)])/\(kQ b=0->ah w' eB V (gP b)/\Ow w' w.heap.size eB X (bC b))/\Fr w w':=by
 obtain⟨a0,bn,rfl,bs,bu,_⟩:=F.shape;by_cases Y:b.length<4;·have hw:=ax ((b.length:Int)-4) ω;have bv:(b.length:Int)-4<0:=ω;have Z:Hid (kQ b=1):=(by show _=_;unfold kQ;rw[af Y]);rw[Z.out];clear Z;go_in;go_wp2;go_ret3;exact⟨_,_,rfl,λh=>absurd h δ,Fr.refl w⟩
 ·obtain⟨n,d⟩:∃n,n=b.length-4:=⟨_,rfl⟩;have hw:IntKind.i64.wrap ((b.length:Int)-4)=(n:Int):=(by rw[ax _ ω];omega);have bx:¬(n:Int)<0:=ω;have K:(b.drop n).length=4:=(by rw[aN];omega);have o:kQ b=if n<mJ b then 1 else cK (pY b):=(by unfold kQ;rw[ae Y,d]);have hD:pY b=(b.take n).drop (n-mJ b):=(by unfold pY;rw[d]);have L:gP b=b.take (n-mJ b):=(by unfold gP;rw[d]);have M:mJ b=cU (((b.drop n).drop 0).take 4):=(by unfold mJ;rw[<- d,wD,cw ω]);have b0:mJ b<4294967296:=(by unfold mJ;rw[<- d];exact Rk _ K);obtain⟨f1,f2,b3,O⟩:=lK eB 30 Tryz.underlying30 F n ω;have G:=ad (qm _ (b.drop n) w O ω);have z:=ad (λB W (hc:aD W 224 B w.heap.size (b.drop n) 0 0) (hb:w.heap.size<=W.heap.size)=>yY B w.heap.size 0 4 (b.drop n) W hc ω ω ω ω hb);rw[<- M]at z;generalize mJ b=k at *;have b4:=ax (k:Int) ω;by_cases aa:n<k;·rw[af aa]at o;rw[o];have t1:(n:Int)<k:=ω;clear o hD L M O K d;generalize b.length-n=m at *;go_in;go_wp2_with fail;apply G.z;rintro e Q ⟨B,rfl,hC,A,hB⟩;have I:=ad (z.out B Q hC A.size);clear G z hC;go_wp2_with fail;apply I.z;rintro e J ⟨rfl,ab,R⟩;have D:Fr w J:=((A.chg (λb=>b=B)).trans R λ_ _ h=>h).fr (λk hk e=>by omega);go_wp2;go_ret3;exact⟨_,_,rfl,λh=>absurd h δ,D⟩
  ·rw[ae aa]at o;obtain⟨r,hr⟩:∃r,r=n-k:=⟨_,rfl⟩;have aj:bC b=bE (pY b):=rfl;rw[aj,o,hD,L];have t1:¬(n:Int)<k:=ω;have b5:IntKind.i64.wrap ((n:Int)-k)=(r:Int):=(by rw[ax _ ω];omega);rw[<- hr];obtain⟨m1,m2,b8,ak⟩:=qJ eB 30 Tryz.underlying30 F r n ω ω;obtain⟨b9,ap⟩:=jj eB 30 Tryz.underlying30 F r ω;have HT:=ad ap;have a1:((b.take n).drop r).length<=1000000:=(by rw[aN,aA];omega);have a2:=ad (λW (h:Fr w W)=>uf _ ((b.take n).drop r) W (ak.fr h) a1 (ht.fr h));clear o hD L M O K d ak ap aj hr a1;generalize n-r=nr,b.length-n=m,(b.take n).drop r=q at *;go_in;go_wp2_with fail;apply G.z;rintro e Q ⟨B,rfl,hC,A,hB⟩;have I:=ad (z.out B Q hC A.size);clear G z hC;go_wp2_with fail;apply I.z;rintro e J ⟨rfl,ab,R⟩;have D:Fr w J:=((A.chg (λb=>b=B)).trans R λ_ _ h=>h).fr (λk hk e=>by omega);have a3:=ad (a2.out J D);clear a2 I ab;go_wp2_with fail;apply a3.z;rintro e w3 ⟨u,rfl,U,bd⟩;obtain⟨p4,z4,rfl⟩:=U.shape';have a4:=D.trans bd;have HO:=ad (U.rebase D.size);have bk:=ad (HT.out.fr a4);clear U HT a3;go_wp2;go_ret3;exact⟨_,_,rfl,λ_=>⟨bk.out,HO.out⟩,a4⟩
def Xz(v:Value)(l:List Nat)(x:Nat)(w:World)(m:ah w eJ v l)(R:l.length<=1000000):Calls Tryz.prog 170 #[v,N x] w λe w'=>(∃k:Int,e=.returned (.int .i64 k)/\(0<=k↔x∈l))/\w'=w:=by
 obtain⟨U,V,rfl,X,Y,_⟩:=m.shape;have J:=ad m;clear m;go_in;go_wp2_with fail;go_loop [8] (λv=>∃i:Nat,i<=l.length/\v=N i/\∀j,∀h:j<l.length,j<i->l[j]≠x) (λK=>l.length-(intOf K).toNat);case atStart=>exact⟨0,ar _,rfl,λj h L=>absurd L (uh _)⟩
 case round=>
  obtain⟨i,Z,rfl,A⟩:=hrel;have D:=ad A;clear A;by_cases F:i<l.length
  ·obtain⟨b,M,cp,G,I⟩:=J.out.cell1 N rfl i F;simp only[ir]at G;obtain⟨rfl,_,rfl⟩:=G;have d0:w.cell? ⟨b,M+i,none⟩=some (N l[i]):=I;clear I;have O:(i:Int)<l.length:=ω;have i2:(0:Int)<=i:=ω;by_cases d:x=l[i];·have Q:((x:Int)=(l[i]:Nat)):=ω;have o:Hid (x∈l):=(by rw[d];exact bJ F);clear d;generalize l[i]=y at *;go_wp2;go_ret;exact⟨⟨_,rfl,⟨λ_=>o.out,λ_=>by omega⟩⟩,rfl⟩
   ·have Q:¬((x:Int)=(l[i]:Nat)):=ω;have o:Hid (∀j,∀h:j<l.length,j<i+1->l[j]≠x):=by
     intro j h h2 e;by_cases z:j=i;·subst z;exact d e.symm
     ·exact D.out j h ω e
    clear d;generalize l[i]=y at *;go_wp2_with fail;go_round;case rel=>exact⟨i+1,ω,γ,o.out⟩
    case measure=>exact μ
  ·have O:¬(i:Int)<l.length:=ω;go_wp2;go_ret;refine⟨⟨_,rfl,⟨λh=>absurd h δ,λh=>?_⟩⟩,rfl⟩;obtain⟨j,z,e⟩:=Cz h;exact absurd e (D.out j z ω)
def X0(v:Value)(l:List Nat)(x:Nat)(w:World)(o:ah w eJ v l)(A:l.length<=1000000):Calls Tryz.prog 135 #[v,N x] w λe w'=>e=.returned (.bool (decide (x∈l)))/\w'=w:=by
 have D:=ad (Xz v l x w o A);obtain⟨G,I,rfl,_⟩:=o.shape;clear o;go_in;go_wp2_with fail;apply D.z;rintro e J ⟨⟨k,rfl,m⟩,rfl⟩;by_cases d:x∈l;·have F:0<=k:=m.2 d;have z:Hid (decide (x∈l)=true):=bp d;clear d m;go_wp2;go_ret;exact⟨by rw[z.out];rfl,rfl⟩
 ·have F:decide (0<=k)=false:=br (λh=>d (m.1 h));have z:Hid (decide (x∈l)=false):=br d;clear d m;go_wp2;go_ret;exact⟨by rw[z.out];rfl,rfl⟩
def DF(l:List Nat)(m:Nat)(h:∀x∈l,x<=m):l.sum<=l.length*m:=by
 induction l with
 | nil=>simp
 | cons a l d=>have o:=h a (zi ..);have z:=d λx e=>h x (wA _ e);rw[gQ,aL,jW];omega
def tH(s:Cs)(b:Z0)(m:Nat):(s.int b m).1<=m:=by
 show Cs.val _ _<=_;unfold Cs.val;split;·rename_i h;exact(nz _ _ h.2).2.2
 ·exact ar _
def TF(b:Z0)(d:Nat)(k:Nat):∀(s:Cs) (e m:List Nat),(∀x∈e,x<=d)->(∀x∈m,x<=8388608) ->
  (gZ b d k s e m).1.length<=e.length+k/\(gZ b d k s e m).2.1.length<=m.length+k/\(∀x∈(gZ b d k s e m).1,x<=d)/\(∀x∈(gZ b d k s e m).2.1,x<=8388608):=by
 induction k with
 | zero=>intro s e m o z;exact⟨al _,al _,o,z⟩
 | succ k G=>
  intro s e m o z;rw[gZ];split
  ·have I:=G ((s.int b d).2.int b 8388608).2 (e++[(s.int b d).1]) (m++[((s.int b d).2.int b 8388608).1])
     (fun x A => by
       rcases jD.1 A with h | h
       · exact o x h
       · rw[ow.1 h]; exact tH _ _ _)
     (fun x A => by
       rcases jD.1 A with h | h
       · exact z x h
       · rw[ow.1 h]; exact tH _ _ _)
   obtain⟨D,F,J⟩:=I;rw[am]at D F;simp only[aL,gS]at D F;exact⟨ω,ω,J⟩
  ·exact⟨uj _ _,uj _ _,o,z⟩
def B1(b:Z0):(dm b).1<=20000/\(mL b).1<=20000/\(cV b).1.length<=20000/\(cV b).2.1.length<=20000/\(cV b).1.sum<=400000000/\(cV b).2.1.sum<=167772160000/\(j9 b).1<=8388608/\(jQ b).1<=8388608:=by
 have d:(dm b).1<=20000:=tH _ _ _;have h:(mL b).1<=(dm b).1:=tH _ _ _;obtain⟨m,o,z,A⟩:=TF b (dm b).1 (mL b).1 (mL b).2 [] [] (λx e=>(iU e).elim) (λx e=>(iU e).elim);simp only[gS,iH]at m o;have D:=DF _ _ z;have F:=DF _ _ A;have G:=bH (ay m (ay h d)) d;have I:=bQ 8388608 (ay o (ay h d));exact⟨d,ω,by show(gZ _ _ _ _ _ _).1.length<=_;omega,by show(gZ _ _ _ _ _ _).2.1.length<=_;omega,by show(gZ _ _ _ _ _ _).1.sum<=_;omega,by show(gZ _ _ _ _ _ _).2.1.sum<=_;omega,tH _ _ _,tH _ _ _⟩
def TD(b:Z0)(d K j:Nat)(s:Cs)(e m:List Nat)(h:j<K)(o:s.er=0):gZ b d (K-j) s e m=gZ b d (K-(j+1)) ((s.int b d).2.int b 8388608).2 (e++[(s.int b d).1]) (m++[((s.int b d).2.int b 8388608).1]):=by
 rw[show K-j=(K-(j+1))+1 by omega,gZ,af o]
def TG(b:Z0)(m k:Nat)(s:Cs)(d e:List Nat)(h:¬s.er=0):gZ b m k s d e=(d,e,s):=by
 cases k with
 | zero=>rfl
 | succ k=>rw[gZ,ae h]
def yC(v:Value)(l:List Nat)(w:World)(h:ah w eJ v l)(V:l.length<=1000000)(X:l.sum<=1000000000000000):Calls Tryz.prog 75 #[v] w λe w'=>e=.returned (N l.sum)/\w=w':=by
 have I:=ad (λk o=>aI h k o);have z:=ad (pX l);have J:=ad (rD l);have K:Hid ((l.take l.length).sum=l.sum):=by show _=_;rw[dY]
 obtain⟨Y,Z,rfl,aa,L,ab⟩:=h.shape;unfold maxLen at L;generalize l.sum=T at *;go_in;go_wp2;go_loopw [3,8] (λM d wr=>∃k:Nat,k<=l.length/\d=N k/\M=N (l.take k).sum/\w=wr) (λ_ d _=>l.length-(intOf d).toNat);case atStart=>exact⟨0,ar _,rfl,σ,rfl⟩
 case round=>
  obtain⟨k,o,rfl,rfl,rfl⟩:=hrel;have h1:=z.out k;by_cases A:k<l.length;·obtain⟨b,aj,ak,O,c0⟩:=I.out k A;cases O;have Q:=ad (J.out k A);have h2:=z.out (k+1);generalize D:(l.take (k+1)).sum=R at *;have U:=ad D;clear D;generalize (l.take k).sum=m at *;generalize l[k]=x at *;have F:R=m+x:=Q.out;have i1:(0:Int)<=k:=ω;have i2:(k:Int)<l.length:=ω;have G:=ad F;clear F;have hw:IntKind.i64.wrap ((m:Int)+x)=(m:Int)+x:=ax _ (by have:=G.out;omega);go_wp2_with fail;exact⟨⟨k+1,ω,γ,by rw[U.out,G.out];go_num,by first | rfl | trivial⟩,by simp[intOf];omega⟩
  ·obtain rfl:k=l.length:=ω;have a4:¬(l.length:Int)<l.length:=ω;rw[K.out];go_wp2;go_ret;exact⟨rfl,rfl⟩
abbrev yG(d e:Value)(p q:Nat):Array Value:=#[d,e,N p,N q,.slice none 0 0,.slice none 0 0,.slice none 0 0,.slice none 0 0,.slice none 0 0,.slice none 0 0]
structure iE (w:World) (g base:Nat) (cs zs:List Nat) (p q:Nat):Prop where
 h:∃cv sv,w.heap[g]?=some (.cells (yG cv sv p q) 107 (0,0))/\Ow w base eJ cv cs/\Ow w base eJ sv zs/\(sv.ownBlock=none\/sv.ownBlock≠cv.ownBlock)
 lt:g<base
def iE.beside{w w':World}{B g base p q:Nat}{o z:List Nat}{I:Array Value}{T:TypeId}{f:Nat × Nat}(h:iE w g base o z p q)(A:w.heap[B]?=some (.cells I T f))(D:T≠3)(J:B≠g)(d:ai (λk=>k=B) w w'):iE w' g base o z p q:=by
 obtain⟨⟨K,L,M,F,G,O⟩,Q⟩:=h;exact⟨⟨K,L,d.heap M (λe=>J e.symm),F.chg d (λk m e=>F.ne_cells A D (by rw[m,show k=B from e])),G.chg d (λk m e=>G.ne_cells A D (by rw[m,show k=B from e])),O⟩,Q⟩
def iE.fr{w w':World}{g base p q:Nat}{e m:List Nat}(h:iE w g base e m p q)(d:Fr w w'):iE w' g base e m p q:=by
 obtain⟨⟨o,z,A,D,F,G⟩,I⟩:=h;exact⟨⟨o,z,d.heap A,D.fr d,F.fr d,G⟩,I⟩
def iE.push0{w w':World}{g base p q:Nat}{G z A:List Nat}{h d v':Value}(I:w.heap[g]?=some (.cells (yG h d p q) 107 (0,0)))(J:Ow w base eJ h G)(D:Ow w base eJ d A)(F:d.ownBlock=none\/d.ownBlock≠h.ownBlock)(o:g<base)(m:dw base eJ z w h v' w'):iE (w'.setCell ⟨g,0,none⟩ v') g base z A p q:=by
 have K:=m.chg'.heap I (λe=>by have:=(J.lt _ e).1;omega);exact⟨⟨v',d,aJ K 0 v',eu (i:=0) (u:=v') m.own o,eu (i:=0) (u:=v') (m.other D F) o,m.apart D F⟩,o⟩
def iE.push1{w w':World}{g base p q:Nat}{z G A:List Nat}{h d v':Value}(I:w.heap[g]?=some (.cells (yG h d p q) 107 (0,0)))(D:Ow w base eJ h z)(J:Ow w base eJ d G)(F:d.ownBlock=none\/d.ownBlock≠h.ownBlock)(o:g<base)(m:dw base eJ A w d v' w'):iE (w'.setCell ⟨g,1,none⟩ v') g base z A p q:=by
 have K:=m.chg'.heap I (λe=>by have:=(J.lt _ e).1;omega);exact⟨⟨h,v',aJ K 1 v',eu (i:=1) (u:=v') (m.other D (t6 F)) o,eu (i:=1) (u:=v') m.own o,t6 (m.apart D (t6 F))⟩,o⟩
def iE.set2{w:World}{g base p q:Nat}{e m:List Nat}(h:iE w g base e m p q)(x:Nat):iE (w.setCell ⟨g,2,none⟩ (N x)) g base e m x q:=by
 obtain⟨⟨o,z,A,D,F,G⟩,d⟩:=h;exact⟨⟨o,z,aJ A 2 (N x),eu (i:=2) (u:=N x) D d,eu (i:=2) (u:=N x) F d,G⟩,d⟩
def iE.set3{w:World}{g base p q:Nat}{e m:List Nat}(h:iE w g base e m p q)(x:Nat):iE (w.setCell ⟨g,3,none⟩ (N x)) g base e m p x:=by
 obtain⟨⟨o,z,A,D,F,G⟩,d⟩:=h;exact⟨⟨o,z,aJ A 3 (N x),eu (i:=3) (u:=N x) D d,eu (i:=3) (u:=N x) F d,G⟩,d⟩
def Gl:Op:=Op.load 56 (.tmp 32)
def Gh:Op:=Op.load 56 (.tmp 44)
attribute [local go_sem] Gl
attribute [local go_sem] Gh
theorem Hp(b:Z0)(d:Nat):nC b d=if((jQ b).2.fin b).er=0 then(if 0∈(cV b).1\/¬(cV b).1.sum=(dm b).1\/¬(cV b).2.1.sum+(j9 b).1+(jQ b).1=d then 2 else 0)else((jQ b).2.fin b).er:=rfl
def Tx(g R:Nat)(v:Value)(b:Z0)(w:World)(hg:w.heap[g]?=some (.cells (yG (.slice none 0 0) (.slice none 0 0) 0 0) 107 (0,0)))(hs:ah w eB v b)(hl:b.length<=1000000)(hr:R<=1000000):Calls Tryz.prog 87 #[.pointer (some ⟨g,0,none⟩),v,N R] w λe w'=>e=.returned (.int .i64 (nC b R:Int))/\iE w' g w.heap.size (cV b).1 (cV b).2.1 (j9 b).1 (jQ b).1/\ai (λk=>k=g) w w':=by
 have d6:=ad (qm v b w hs hl);have aj:=ad (λmost (hm:most<9223372036854775808) B base s W h=>sn most hm B base s b W h hl);have dE:=ad (λB base n er W h=>ld B base n er b W h);have dT:=ad (λB base s W h=>JG B base s b W h);obtain⟨r1,r2,r3,r4,r5,r6,r7,r8⟩:=B1 b;have b3:=ad (Hp b R);have HN:Hid ((dm b)=(⟨0,0⟩:Cs).int b 20000):=rfl;have HK:Hid ((mL b)=(dm b).2.int b (dm b).1):=rfl;have HP:Hid ((j9 b)=(cV b).2.2.int b 8388608):=rfl;have HQ:Hid ((jQ b)=(j9 b).2.int b 8388608):=rfl;have HG:Hid (cV b=gZ b (dm b).1 ((mL b).1-0) (mL b).2 [] []):=rfl;have HS:=ad (TD b (dm b).1 (mL b).1);have e5:=ad (TG b (dm b).1);have cp:g<w.heap.size:=(aR.1 hg).1;generalize cV b=Z,nC b R=E at *;generalize fD:dm b=DN at *;generalize fP:mL b=DK at *;generalize fS:j9 b=DP at *;generalize gb:jQ b=DQ at *;obtain⟨n,s1⟩:=DN;obtain⟨K,s2⟩:=DK;obtain⟨p,s4⟩:=DP;obtain⟨q,s5⟩:=DQ;have hn:n<=20000:=r1;have hK:K<=20000:=r2;clear fD fP fS gb r1 r2;obtain⟨a0,hp,rfl,_⟩:=hs.shape;clear hs;go_in;go_wp2_with fail;apply d6.z;rintro e w1 ⟨B,rfl,hC,cu,hB⟩;have c4:=ad (aj.out 20000 ω B _ ⟨0,0⟩ w1 hC);rw[<- HN.out]at c4;have e7:iE w1 g w.heap.size [] [] 0 0:=⟨⟨_,_,cu.heap hg,Ow.nil,Ow.nil,.inl rfl⟩,cp⟩;have e8:=cu.size;have e9:=cu.chg (λk=>k=g\/w.heap.size<=k);obtain⟨bx,z⟩:=hC.cbox;clear d6 hC hg HN;go_wp2_with fail;apply c4.z;rintro e w2 ⟨rfl,c5,b4⟩;have eL:=e7.beside z δ ω b4;have fa:=ay e8 b4.size;have fb:=e9.trans (G':=λk=>k=B) b4 λk _ e=>.inr (by have e:k=B:=e;omega);have c6:=ad (aj.out n ω B _ s1 w2 c5);rw[<- HK.out]at c6;obtain⟨bx,fc⟩:=c5.cbox;clear c4 e7 e9 z b4 c5 HK;go_wp2_with fail;apply c6.z;rintro e w3 ⟨rfl,c7,b5⟩;have c8:=eL.beside fc δ ω b5;have cA:=ay fa b5.size;have cB:=fb.trans (G':=λk=>k=B) b5 λk _ e=>.inr (by have e:k=B:=e;omega);clear c6 eL fb fc b5 e8 fa;go_upto_block 0 with fail;go_cut [10]from 19 to 51 (λ_ F=>∃(s:Cs) (d m:List Nat),Z=(d,m,s)/\iE F g w.heap.size d m 0 0/\aD F 224 B w.heap.size b s.at_ s.er/\ai (λk=>k=g\/w.heap.size<=k) w F/\w.heap.size<=F.heap.size)
 case first=>
  go_wp2;go_loopw [10] (λiv wr=>∃(j:Nat) (s:Cs) (d m:List Nat),j<=K/\iv=N j/\Hid (d.length=j)/\Hid (m.length=j)/\iE wr g w.heap.size d m 0 0/\aD wr 224 B w.heap.size b s.at_ s.er/\ai (λk=>k=g\/w.heap.size<=k) w wr/\w.heap.size<=wr.heap.size/\Hid (Z=gZ b n (K-j) s d m)) (λiv _=>K-(intOf iv).toNat);case atStart=>exact⟨0,s2,[],[],ar _,rfl,rfl,rfl,c8,c7,cB,cA,HG.out⟩
  case round=>
   clear c8 c7 cB cA HG;obtain⟨j,s,d,m,hj,rfl,fe,fh,hD,hC,X,hz,a5⟩:=hrel;have G:=ad (dE.out B _ s.at_ s.er wr hC);by_cases gv:j<K
   ·have i1:(j:Int)<K:=ω;by_cases U:s.er=0
    ·have a6:=ad (a5.out.trans (HS.out j s d m gv U));rw[U]at G;have fk:=ad (aj.out n ω B _ s wr.drew (hC.fr (Fr.refl wr).drew));have cF:=ad (λW h=>aj.out 8388608 ω B w.heap.size (s.int b n).2 W h);obtain⟨b6,z⟩:=hC.cbox;obtain⟨cv,sv,o,A,I,Y⟩:=hD.h;obtain⟨ca,cc,rfl⟩:=A.shape';have Q:B≠g:=ω;have b9:=fe.out;have bA:=fh.out;have fl:Hid (d.length+[(s.int b n).1].length<=2147483648):=(by show _<=_;simp;omega);have g0:Hid (m.length+[((s.int b n).2.int b 8388608).1].length<=2147483648):=(by show _<=_;simp;omega);have c0:=ag o 0 rfl;clear b9 bA U a5;generalize (s.int b n).2=s3,(s.int b n).1=x,((s.int b n).2.int b 8388608).1=y,((s.int b n).2.int b 8388608).2=g1 at *;go_wp2_with fail;apply G.z;rintro e w5 ⟨rfl,rfl⟩;go_upto_region 7 with fail;go_cut []from 29 to 40 (λF=>iE F g w.heap.size (d++[x]) m 0 0/\aD F 224 B w.heap.size b s3.at_ s3.er/\ai (λk=>k=g\/w.heap.size<=k) w F/\w.heap.size<=F.heap.size)
     case first=>
      clear a6 cF G;rw[show Op.load 56 (.tmp 32)=Gl from rfl]
      go_region_held_law (fun _ => True) (first | trivial | go_keep) (((first
        | (go_at_call 132; apply fk.z; rintro e M ⟨rfl, ba, D⟩
           have ap := D.heap (show wr.drew.heap[g]? = _ from o) (λe => Q e.symm)
           have av := A.drew.chg D (λk hk e => A.ne_cells z δ (by rw[hk, show k = B from e]))
           have a3 := I.drew.chg D (λk hk e => I.ne_cells z δ (by rw[hk, show k = B from e]))
           have ab : w.heap.size ≤ M.heap.size := ay hz D.size
           have bb := (X.trans ((Fr.refl wr).drew.chg (λk => k = g ∨ w.heap.size ≤ k)) (λ_ _ h => h)).trans (G' := λk => k = B) D λk _ e => .inr (by have e : k = B := e; omega)
           have d0 := ag ap 0 rfl
           have d1 := ((Fr.refl M).alloc (.cells #[N x] 3)).cell d0)
        | (refine uN eJ rfl (.tmp 33) (.tmp 37) 56 rfl Tryz.underlying56 w.heap.size rfl av [x] _ _ _ rfl rfl rfl fl.out ab ?_
           intro v' O J
           have cR := J.own
           obtain ⟨va, vc, bn⟩ := cR.shape'
           rw[show (d ++ [x]).length = d.length + 1 from by simp] at bn
           subst bn
           have a4 := J.chg'.heap ap (λe => by have := (av.lt _ e).1; omega)
           have e3 := ag a4 0 rfl
           have e4 : O.frozen? ⟨g, 0, none⟩ = false := a8 a4 0))))
      all_goals go_wp2_with fail
      all_goals go_meet
      all_goals exact⟨iE.push0 ap av a3 Y cp J,(ba.app av J δ δ).box a4 δ Q (a9 O ⟨g,0,none⟩ _),(bb.trans J.chg' λk _ e=>.inr (av.lt k e).1).trans (a9 O ⟨g,0,none⟩ _) λk _ e=>.inl e,ay (ay ab J.size) (a9 O ⟨g,0,none⟩ _).size⟩
     case rest=>
      obtain⟨hD,hC,X,hz⟩:=hcut;clear fk G z o A I Y c0 fl;have g5:=ad (cF.out wc.drew (hC.fr (Fr.refl wc).drew));obtain⟨b6,z⟩:=hC.cbox;obtain⟨cv,sv,o,A,I,Y⟩:=hD.h;obtain⟨sa,sc,rfl⟩:=I.shape';have c0:=ag o 1 rfl;go_upto_region 8 with fail;have b9:=fe.out;have bA:=fh.out;have g6:Hid ((d++[x]).length=j+1):=ad (by rw[am,b9];rfl);have g7:Hid ((m++[y]).length=j+1):=ad (by rw[am,bA];rfl);clear b9 bA cF;rw[show Op.load 56 (.tmp 44)=Gh from rfl]
      go_region_held_law (fun _ => True) (first | trivial | go_keep) (((first
        | (go_at_call 132; apply g5.z; rintro e M ⟨rfl, ba, D⟩
           have ap := D.heap (show wc.drew.heap[g]? = _ from o) (λe => Q e.symm)
           have av := A.drew.chg D (λk hk e => A.ne_cells z δ (by rw[hk, show k = B from e]))
           have a3 := I.drew.chg D (λk hk e => I.ne_cells z δ (by rw[hk, show k = B from e]))
           have ab : w.heap.size ≤ M.heap.size := ay hz D.size
           have bb := (X.trans ((Fr.refl wc).drew.chg (λk => k = g ∨ w.heap.size ≤ k)) (λ_ _ h => h)).trans (G' := λk => k = B) D λk _ e => .inr (by have e : k = B := e; omega)
           have d0 := ag ap 1 rfl
           have d1 := ((Fr.refl M).alloc (.cells #[N y] 3)).cell d0)
        | (refine uN eJ rfl (.tmp 45) (.tmp 48) 56 rfl Tryz.underlying56 w.heap.size rfl a3 [y] _ _ _ rfl rfl rfl g0.out ab ?_
           intro v' O J
           have cR := J.own
           obtain ⟨va, vc, bn⟩ := cR.shape'
           rw[show (m ++ [y]).length = m.length + 1 from by simp] at bn
           subst bn
           have a4 := J.chg'.heap ap (λe => by have := (a3.lt _ e).1; omega)
           have e3 := ag a4 1 rfl
           have e4 : O.frozen? ⟨g, 1, none⟩ = false := a8 a4 1))))
      all_goals go_wp2_with fail
      all_goals go_roundw
      all_goals first
       | (simp[intOf];omega)
       | exact⟨j+1,g1,d++[x],m++[y],ω,γ,g6.out,g7.out,iE.push1 ap av a3 Y cp J,(ba.app a3 J δ δ).box a4 δ Q (a9 O ⟨g,1,none⟩ _),(bb.trans J.chg' λk _ e=>.inr (a3.lt k e).1).trans (a9 O ⟨g,1,none⟩ _) λk _ e=>.inl e,ay (ay ab J.size) (a9 O ⟨g,1,none⟩ _).size,a6.out⟩
    ·have g8:¬(s.er:Int)=0:=ω;have a6:=ad (a5.out.trans (e5.out (K-j) s d m U));clear a5;go_wp2_with fail;apply G.z;rintro e w5 ⟨rfl,rfl⟩;go_wp2;go_meet;exact⟨s,d,m,a6.out,hD,hC,X,hz⟩
   ·obtain rfl:j=K:=ω;have i1:¬(j:Int)<j:=ω;have a6:Hid (Z=(d,m,s)):=ad (by rw[a5.out,fY];rfl);clear a5;go_wp2;go_meet;exact⟨s,d,m,a6.out,hD,hC,X,hz⟩
 case rest=>
  obtain⟨s,d,m,gO,hD,hC,X,hz⟩:=hcut;clear c8 c7 cB cA HG HS e5;have cT:=ad (aj.out 8388608 ω B _ s wc hC);subst gO;rw[show(s.int b 8388608)=(p,s4)from HP.out.symm]at cT;have da:=ad (λW h=>aj.out 8388608 ω B w.heap.size s4 W h);rw[show(s4.int b 8388608)=(q,s5)from HQ.out.symm]at da;have fm:=ad (λW h=>dT.out B w.heap.size s5 W h);obtain⟨b6,z⟩:=hC.cbox;have Q:B≠g:=ω;clear hC HP HQ dT aj dE;generalize s5.fin b=s6 at *;go_wp2_with fail;apply cT.z;rintro e w4 ⟨rfl,fn,bL⟩;have dc:=hD.beside z δ Q bL;have fr:=X.trans (G':=λk=>k=B) bL λk _ e=>.inr (by have e:k=B:=e;omega);have fs:=ay hz bL.size;clear cT hD X z bL;obtain⟨cv,sv,o,A,I,Y⟩:=dc.h;have e3:=ag o 2 rfl;have e4:w4.frozen? ⟨g,2,none⟩=false:=a8 o 2;have fv:=dc.set2 p;have di:=fn.box o δ Q (a9 w4 ⟨g,2,none⟩ (N p));have f0:=fr.trans (a9 w4 ⟨g,2,none⟩ (N p)) λk _ e=>.inl e;have f1:=ay fs (a9 w4 ⟨g,2,none⟩ (N p)).size;clear dc fn fr o A I Y fs;go_wp2_with fail;generalize w4.setCell ⟨g,2,none⟩ (N p)=w5 at *;have f2:=ad (da.out w5 di);obtain⟨b6,z⟩:=di.cbox;clear da di e3 e4;apply f2.z;rintro e M ⟨rfl,ba,D⟩;have dj:=fv.beside z δ Q D;have bb:=f0.trans (G':=λk=>k=B) D λk _ e=>.inr (by have e:k=B:=e;omega);have ab:=ay f1 D.size;clear f2 fv f0 z D f1;obtain⟨cv,sv,o,A,I,Y⟩:=dj.h;have e3:=ag o 3 rfl;have e4:M.frozen? ⟨g,3,none⟩=false:=a8 o 3;have f3:=dj.set3 q;have ds:=ba.box o δ Q (a9 M ⟨g,3,none⟩ (N q));have f4:=bb.trans (a9 M ⟨g,3,none⟩ (N q)) λk _ e=>.inl e;have ha:=ay ab (a9 M ⟨g,3,none⟩ (N q)).size;clear dj ba bb o A I Y ab;go_wp2_with fail;generalize M.setCell ⟨g,3,none⟩ (N q)=O at *;have f5:=ad (fm.out O ds);obtain⟨b6,z⟩:=ds.cbox;clear fm ds e3 e4;apply f5.z;rintro e L ⟨rfl,hb,dv⟩;have bR:=f3.beside z δ Q dv;have f6:=f4.trans (G':=λk=>k=B) dv λk _ e=>.inr (by have e:k=B:=e;omega);have bT:Hid (ai (λk=>k=g) w L):=f6.mono (G':=λk=>k=g) λk hk h=>(by have h:k=g\/w.heap.size<=k:=h;show k=g;omega);clear f5 f3 f4 z dv hb f6;by_cases U:s6.er=0
  ·have f7:((s6.er:Nat):Int)=0:=ω;have G:Hid (E=if 0∈d\/¬d.sum=n\/¬m.sum+p+q=R then 2 else 0):=ad (by rw[b3.out,af U]);rw[f7];have cb:=ad bR;have d2:Hid (ai (λk=>k=g) w L.drew):=bT.out.trans ((Fr.refl L).drew.chg (λk=>k=g)) λ_ _ h=>h;obtain⟨cv,sv,o,A,I,_⟩:=bR.h;obtain⟨ca,cc,rfl⟩:=A.shape';obtain⟨sa,sc,rfl⟩:=I.shape';have c0:=ag o 0 rfl;have c1:=ag o 1 rfl;have c2:=ag o 2 rfl;have c3:=ag o 3 rfl;have r3:d.length<=20000:=r3;have r4:m.length<=20000:=r4;have r5:d.sum<=400000000:=r5;have r6:m.sum<=167772160000:=r6;have r7:p<=8388608:=r7;have r8:q<=8388608:=r8;have bc:Hid (∀W,Fr L W->Calls Tryz.prog 135 #[.slice ca d.length cc,.int .i64 0] W λe w'=>e=.returned (.bool (decide (0∈d)))/\w'=W):=λW h=>X0 _ d 0 W (A.see.fr h) ω;have b1:=ad (λW (h:Fr L W)=>yC _ d W (A.see.fr h) ω ω);have cf:=ad (λW (h:Fr L W)=>yC _ m W (I.see.fr h) ω ω);clear b3 U f7 bR o A I ha r3 r4;by_cases m0:0∈d;·rw[bp m0]at bc;have V:Hid (E=2):=ad (by rw[G.out,af (.inl m0)]);clear m0 G b1 cf;go_upto_region 14 with fail;go_quiet ((go_at_call 135;exact sK (bc.out _ (Fr.drewN (Fr.refl L) _))));go_wp2;go_ret;exact⟨by rw[V.out];rfl,cb.out.fr (Fr.drewN (Fr.refl L) _),bT.out.trans (vI (λk=>k=g) L _) λ_ _ h=>h⟩
   rw[br m0]at bc;by_cases m1:d.sum=n
   ·have i1:((d.sum:Nat):Int)=n:=ω;rw[m1]at b1;obtain⟨a1,d3⟩:∃a1,a1=m.sum+p:=⟨_,rfl⟩;obtain⟨a2,d4⟩:∃a2,a2=a1+q:=⟨_,rfl⟩;have hx:IntKind.i64.wrap ((m.sum:Int)+p)=(a1:Int):=(by rw[ax _ ω];omega);have hc:IntKind.i64.wrap ((a1:Int)+q)=(a2:Int):=(by rw[ax _ ω];omega);rw[<- d3,<- d4]at G;by_cases m2:a2=R
    ·have V:Hid (E=0):=ad (by rw[G.out,ae (by rintro(h | h | h);exact m0 h;exact h m1;exact h m2)]);have j2:(a2:Int)=R:=ω;clear m0 m1 d3 d4 G r5 r6 i1;generalize m.sum=zz at *;rw[m2]at hc;clear m2 j2;go_upto_region 14 with fail
     go_region_held3 (λW => W.cell? ⟨g, 0, none⟩ = some (.slice ca d.length cc) ∧ W.cell? ⟨g, 1, none⟩ = some (.slice sa m.length sc) ∧ W.cell? ⟨g, 2, none⟩ = some (N p) ∧ W.cell? ⟨g, 3, none⟩ = some (N q))
      (first | go_keep)
      ((first
        | (go_at_call 135; refine (bc.out _ (Fr.refl _).drew).mono ?_; rintro e F ⟨rfl, rfl⟩)
        | (go_at_call_of 75 (Value.slice ca d.length cc); refine (b1.out _ (Fr.refl _).drew).mono ?_; rintro e F ⟨rfl, rfl⟩)
        | (go_at_call_of 75 (Value.slice sa m.length sc); refine (cf.out _ (Fr.refl _).drew).mono ?_; rintro e F ⟨rfl, rfl⟩)))
     go_wp2;go_ret;exact⟨by rw[V.out];rfl,cb.out.fr (Fr.refl _).drew,d2.out⟩
    ·have V:Hid (E=2):=ad (by rw[G.out,af (.inr (.inr m2))]);have j2:¬(a2:Int)=R:=ω;clear m0 m1 d3 d4 G r5 r6 i1;generalize m.sum=zz at *;go_upto_region 14 with fail
     go_region_held3 (λW => W.cell? ⟨g, 0, none⟩ = some (.slice ca d.length cc) ∧ W.cell? ⟨g, 1, none⟩ = some (.slice sa m.length sc) ∧ W.cell? ⟨g, 2, none⟩ = some (N p) ∧ W.cell? ⟨g, 3, none⟩ = some (N q))
      (first | go_keep)
      ((first
        | (go_at_call 135; refine (bc.out _ (Fr.refl _).drew).mono ?_; rintro e F ⟨rfl, rfl⟩)
        | (go_at_call_of 75 (Value.slice ca d.length cc); refine (b1.out _ (Fr.refl _).drew).mono ?_; rintro e F ⟨rfl, rfl⟩)
        | (go_at_call_of 75 (Value.slice sa m.length sc); refine (cf.out _ (Fr.refl _).drew).mono ?_; rintro e F ⟨rfl, rfl⟩)))
     go_wp2;go_ret;exact⟨by rw[V.out];rfl,cb.out.fr (Fr.refl _).drew,d2.out⟩
   ·have V:Hid (E=2):=ad (by rw[G.out,af (.inr (.inl m1))]);have i1:¬((d.sum:Nat):Int)=n:=ω;clear m0 G cf d2 r5 r6 m1;go_upto_region 14 with fail
    go_quiet ((first
      | (go_at_call 135; exact sK (bc.out _ (Fr.drewN (Fr.refl L) _)))
      | (go_at_call 75; exact sK ((b1.out _ (Fr.drewN (Fr.refl L) _)).mono λ_ _ h => ⟨h.1, h.2.symm⟩))))
    go_wp2;go_ret;exact⟨by rw[V.out];rfl,cb.out.fr (Fr.drewN (Fr.refl L) _),bT.out.trans (vI (λk=>k=g) L _) λ_ _ h=>h⟩
  ·have g8:¬(s6.er:Int)=0:=ω;have V:Hid (E=s6.er):=ad (by rw[b3.out,ae U]);clear b3 U;go_wp2;go_ret;exact⟨by rw[V.out];rfl,bR,bT.out⟩
def B6(c:Z0):(bE c).length<=c.length:=by
 unfold bE;split;·rw[aA];omega
 ·exact ar _
theorem Ig(n:Nat)(c:Z0):mM n c=if cK c=0 then(if(fi n (bE c)).2.2.2=0 then(if(fi n (bE c)).2.2.1<(bE c).length then 2 else 0)else(fi n (bE c)).2.2.2)else cK c:=rfl
def Ul(g n:Nat)(hn:n<=20000)(v:Value)(c:Z0)(w:World)(O Q U V X Y Z x9:Value)(hg:w.heap[g]?=some (.cells #[O,Q,U,V,.slice none 0 0,.slice none 0 0,X,Y,Z,x9] 107 (0,0)))
  (hs:ah w eB v c) (hl:c.length<=1000000) (ht:cP w) :
  Calls Tryz.prog 89 #[.pointer (some ⟨g,4,none⟩),N n,v] w λe w'=>e=.returned (.int .i64 (mM n c:Int)) /\
   (mM n c=0->∃u t,w'.heap[g]?=some (.cells #[O,Q,U,V,u,t,X,Y,Z,x9] 107 (0,0))/\Ow w' w.heap.size eQ u (fi n (bE c)).1/\Ow w' w.heap.size eB t (fi n (bE c)).2.1)/\ai (λk=>k=g) w w':=by
 have a3:=ad (uf v c w hs hl ht);have bf:=B6 c;have d:=ad (Ig n c);have a4:=ad (λW u (h:ah W eB u (bE c))=>Ww n hn u (bE c) W h ω);have I:g<w.heap.size:=(aR.1 hg).1;obtain⟨a0,b0,rfl,_⟩:=hs.shape;clear hs;have b1:(bE c).length<=1000000:=ω
 clear bf;generalize bE c=q,cK c=er,mM n c=E at *;generalize fi n q=R at *;obtain⟨T,L,m,e2⟩:=R;go_in;go_wp2_with fail;apply a3.z;rintro e w1 ⟨u,rfl,hO,D⟩;obtain⟨ua,uc,rfl⟩:=hO.shape';clear a3;by_cases J:er=0
 ·rw[af J]at d;subst J;have a6:=ad (a4.out w1 _ hO.see);have a7:=D.heap hg;clear a4 hO hg;go_wp2_with fail;apply a6.z;rintro e A ⟨tv,lv,rfl,hT,hL,ap⟩;obtain⟨o,z,rfl⟩:=hT.shape';obtain⟨F,G,rfl⟩:=hL.shape';have av:=ap.heap a7;have a1:=D.trans ap;have aC:=hT.rebase D.size;have ba:=hL.rebase D.size;clear a6 a7 ap hT hL;by_cases K:e2=0
  ·rw[af K]at d;subst K;by_cases M:m<q.length;·rw[af M]at d;have i1:(m:Int)<q.length:=ω;clear M;go_wp2;go_ret;exact⟨by rw[d.out];rfl,λh=>absurd (d.out.symm.trans h) δ,a1.chg _⟩
   ·rw[ae M]at d;have i1:¬(m:Int)<q.length:=ω;have e4:=ag av 4 rfl;have f4:A.frozen? ⟨g,4,none⟩=false:=a8 av 4;have bb:=a9 A ⟨g,4,none⟩ (.slice o T.length z);have a2:(A.setCell ⟨g,4,none⟩ (.slice o T.length z)).heap[g]?=some (.cells #[O,Q,U,V,.slice o T.length z,.slice none 0 0,X,Y,Z,x9] 107 (0,0)):=aJ av 4 (.slice o T.length z);have e5:(A.setCell ⟨g,4,none⟩ (.slice o T.length z)).cell? ⟨g,5,none⟩=some (.slice none 0 0):=(by rw[aK a2];rfl);have f5:(A.setCell ⟨g,4,none⟩ (.slice o T.length z)).frozen? ⟨g,5,none⟩=false:=a8 a2 5;have bc:=a9 (A.setCell ⟨g,4,none⟩ (.slice o T.length z)) ⟨g,5,none⟩ (.slice F L.length G);have bm:=aJ a2 5 (.slice F L.length G);have bn:=eu (i:=5) (u:=.slice F L.length G) (eu (i:=4) (u:=.slice o T.length z) aC I) I;have bs:=eu (i:=5) (u:=.slice F L.length G) (eu (i:=4) (u:=.slice o T.length z) ba I) I;have bu:ai (λk=>k=g) w ((A.setCell ⟨g,4,none⟩ (.slice o T.length z)).setCell ⟨g,5,none⟩ (.slice F L.length G)):=((a1.chg (λk=>k=g)).trans bb λ_ _ h=>h).trans bc λ_ _ h=>h;clear M bb bc aC ba;go_wp2;go_ret;exact⟨by rw[d.out];rfl,λ_=>⟨_,_,bm,bn,bs⟩,bu⟩
  ·rw[ae K]at d;have i2:¬(e2:Int)=0:=ω;go_wp2;go_ret;exact⟨by rw[d.out];rfl,λh=>absurd (d.out.symm.trans h) K,a1.chg _⟩
 ·rw[ae J]at d;have i2:¬(er:Int)=0:=ω;go_wp2;go_ret;exact⟨by rw[d.out];rfl,λh=>absurd (d.out.symm.trans h) J,D.chg _⟩
def Gj:Op:=Op.load 75 (.tmp 21)
attribute [local go_sem] Gj
def Ue(l:List Nat)(z:Nat):∀b:Z0,iC (l++[z]) b=iC l b++[(b.drop l.sum).take z]:=by
 induction l with
 | nil=>intro b;simp[iC]
 | cons x l d=>intro b;rw[lm,iC,iC,d,lk,gQ,lm]
def Ud(l:List Nat)(b:Z0)(i:Nat)(h:i<l.length):iC (l.take (i+1)) b=iC (l.take i) b++[(b.drop (l.take i).sum).take l[i]]:=by
 rw[f8 h,Ue]
def Ve(g p base:Nat)(v:Value)(b:Z0)(d:List Nat)(A w:World)(x0 x3 x4 x5 x6 x7 x9 sv:Value)(hg:w.heap[g]?=some (.cells #[x0,sv,N p,x3,x4,x5,x6,x7,.slice none 0 0,x9] 107 (0,0)))
  (hz:Ow w base eJ sv d) (L:ah A eB v b) (h0:Fr A w) (hg0:A.heap.size<=g) (hgb:g<base) (hl:b.length<=1000000) (hr:d.sum+p<=b.length) (hzl:d.length<=20000) :
  Calls Tryz.prog 88 #[.pointer (some ⟨g,0,none⟩),v] w λe w'=>∃cv F,e=.returned (.tuple #[cv,F])/\ah A eB cv ((b.drop d.sum).take p)/\ah A eB F ((b.drop d.sum).drop p) /\
   (∃o m,w'.heap[g]?=some (.cells #[x0,sv,N p,x3,x4,x5,x6,x7,o,x9] 107 (0,0))/\Ow w' w.heap.size aO o m/\cr w' w.heap.size eB m (iC d b))/\ai (λk=>k=g) w w':=by
 have bm:g<w.heap.size:=(aR.1 hg).1;have ck:=ad (pX d);have bn:=ad (rD d);have cl:Hid ((d.take d.length).sum=d.sum):=by show _=_;rw[dY]
 have cm:=ad (Ud d b);have cn:Hid (iC (d.take d.length) b=iC d b):=by show _=_;rw[dY]
 have cp:=ad (λv q W L (hq:q.length<=1000000)=>lE v q W L hq);obtain⟨za,zc,rfl⟩:=hz.shape';have c1:=ag hg 1 rfl;obtain⟨a0,bx,rfl,_⟩:=L.shape;have b0:ah A eB (.slice a0 b.length bx) (b.drop 0):=L;clear L;go_in;go_wp2;go_loopw [1,14] (λbv F wr=>∃(i a:Nat) (q:Option Addr) (c:Nat) (m:List Hd),i<=d.length/\F=N i/\Hid (a=(d.take i).sum)/\a<=d.sum/\bv=.slice q (b.length-a) c/\ah A eB (.slice q (b.length-a) c) (b.drop a)/\m.length=i/\(∃o,wr.heap[g]?=some (.cells #[x0,.slice za d.length zc,N p,x3,x4,x5,x6,x7,o,x9] 107 (0,0))/\Ow wr w.heap.size aO o m)/\cr wr w.heap.size eB m (iC (d.take i) b)/\ai (λk=>k=g\/w.heap.size<=k) w wr/\w.heap.size<=wr.heap.size) (λ_ F _=>d.length-(intOf F).toNat);case atStart=>exact⟨0,0,a0,bx,[],ar _,rfl,rfl,ar _,rfl,b0,rfl,⟨_,hg,Ow.nil⟩,⟨rfl,λt h=>by simp at h⟩,(Fr.refl w).chg _,al _⟩
 case round=>
  clear b0 c1;obtain⟨i,a,q,c,m,hi,rfl,M,ha,rfl,G,b1,⟨o,O,hF⟩,hO,I,a7⟩:=hrel;have b2:Fr A wr:=((h0.chg (fun k=>k=g\/w.heap.size<=k)).trans I fun _ _ h=>h).fr (fun k hk e=>by have:=h0.size;have e:k=g\/w.heap.size<=k:=e;omega);have b3 := hz.chg I (fun k hk e => by
    have h1 := hz.lt k hk;have h2 := hz.ne_cells hg δ;rcases e with e | e;·exact h2 (by rw[hk, e])
    · omega)
  by_cases a4:i<d.length
  ·have i1:(i:Int)<d.length:=ω;have i2:(0:Int)<=i:=ω;obtain⟨b5,o5,p5,c4,e5⟩:=b3.see.cell1 N rfl i a4;cases c4;have e6:wr.cell? ⟨b5,o5+i,none⟩=some (N d[i]):=e5;have b9:=ck.out (i+1);rw[bn.out i a4,<- M.out]at b9;have c5:Hid (a+d[i]=(d.take (i+1)).sum):=ad (by rw[bn.out i a4,<- M.out]);have c6:Hid (iC (d.take (i+1)) b=iC (d.take i) b++[(b.drop a).take d[i]]):=ad (by rw[cm.out i a4,<- M.out]);clear e5;generalize d[i]=z at *;have ba:(b.drop a).length=b.length-a:=aN ..;have bb:z<=(b.drop a).length:=ω;obtain⟨c7,Q⟩:=jj eB 30 Tryz.underlying30 G z bb;obtain⟨p2,c2,bA,J⟩:=lK eB 30 Tryz.underlying30 G z bb;have bc:(b.drop a).length-z=b.length-(a+z):=ω;rw[bc,lk]at J;rw[bc]at bA;have bB:=ad (cp.out _ ((b.drop a).take z) wr.drew (Q.fr b2.drew) (by rw[aA];omega));have bL:((b.drop a).take z).length=z:=(by rw[aA];omega);have a5:=ad J;have cA:=ad b1;have cB:Hid (m.length+[(⟨none,0,0⟩:Hd)].length<=2147483648):=(by show _<=_;simp;omega);obtain⟨fa,fc,rfl⟩:=hF.shape';have c8:=ag O 8 rfl;have d6:=ad bL;clear G ba bb Q J bc b1 bL;generalize (b.drop a).take z=K at *;go_upto_region 4 with fail;go_cut []from 18 to 30 (λR=>∃U:List Hd,U.length=i+1/\(∃o,R.heap[g]?=some (.cells #[x0,.slice (some ⟨b5,o5,none⟩) d.length zc,N p,x3,x4,x5,x6,x7,o,x9] 107 (0,0))/\Ow R w.heap.size aO o U)/\cr R w.heap.size eB U (iC (d.take i) b++[K])/\ai (λk=>k=g\/w.heap.size<=k) w R/\w.heap.size<=R.heap.size)
   case first=>
    rw[show Op.load 75 (.tmp 21)=Gj from rfl]
    go_region_held_law (fun _ => True) (first | trivial | go_keep) (((first
      | (go_at_call 66; apply bB.z; rintro e w6 ⟨u6, rfl, bT, V⟩
         obtain ⟨X, Y, rfl⟩ := bT.shape'
         have ca := V.heap (show wr.drew.heap[g]? = _ from O)
         have Z := hF.drew.fr V
         have cb : w.heap.size ≤ w6.heap.size := ay a7 V.size
         have cF := bT.rebase (show w.heap.size ≤ _ from a7)
         have d0 := ag ca 8 rfl
         have d1 := ((Fr.refl w6).alloc (.cells #[.slice X K.length Y] 30)).cell d0)
      | (refine uN aO rfl (.tmp 22) (.tmp 27) 75 rfl Tryz.underlying75 w.heap.size rfl Z [⟨X, K.length, Y⟩] _ _ _ rfl rfl rfl cB.out cb ?_
         intro v' w7 D
         have cL := D.own
         obtain ⟨va, vc, cc⟩ := cL.shape'
         rw[show (m ++ [(⟨X, K.length, Y⟩ : Hd)]).length = m.length + 1 from by simp] at cc
         subst cc
         have bf := D.chg'.heap ca (λe => by have := (Z.lt _ e).1; omega)
         have e3 := ag bf 8 rfl
         have e4 : w7.frozen? ⟨g, 8, none⟩ = false := a8 bf 8))))
    all_goals go_wp2_with fail
    all_goals go_meet
    all_goals have cf:=(((hO.fr ((Fr.refl wr).drew.trans V)).app Z D δ).snoc (x:=⟨X,K.length,Y⟩) (dx cF Z D δ));refine⟨m++[⟨X,K.length,Y⟩],by rw[am,cA.out];rfl,⟨_,aJ bf 8 _,eu (i:=8) D.own bm⟩,⟨cf.1,λt h1 h2=>eu (i:=8) (cf.2 t h1 h2) bm⟩,((I.trans (((Fr.refl wr).drew.trans V).chg (λk=>k=g\/w.heap.size<=k)) λ_ _ h=>h).trans D.chg' λk _ e=>.inr (Z.lt k e).1).trans (a9 w7 ⟨g,8,none⟩ _) λk _ e=>.inl e,ay (ay cb D.size) (a9 w7 ⟨g,8,none⟩ _).size⟩
   case rest=>
    obtain⟨U,ch,cN,cj,cR,cT⟩:=hcut;rw[<- c6.out]at cj;have da:=ad ch;clear ch O hF hO I a7 b3 c8 bB b2;go_wp2;go_roundw;case rel=>exact⟨i+1,a+z,p2,c2,U,ω,γ,c5.out,b9,rfl,a5.out,da.out,cN,cj,cR,cT⟩
    case measure=>exact μ
  ·obtain rfl:i=d.length:=ω;have i1:¬(d.length:Int)<d.length:=ω;have dc:a=d.sum:=M.out.trans cl.out;rw[cn.out]at hO;subst dc;have ba:(b.drop d.sum).length=b.length-d.sum:=aN ..;have bk:p<=(b.drop d.sum).length:=ω;obtain⟨c7,Q⟩:=jj eB 30 Tryz.underlying30 G p bk;obtain⟨p2,c2,bA,J⟩:=lK eB 30 Tryz.underlying30 G p bk;have er:=ag O 2 rfl;have di:=ad Q;have a5:=ad J;have dj:ai (λk=>k=g) w wr:=I.mono (G':=λk=>k=g) λk hk h=>(by have h:k=g\/w.heap.size<=k:=h;show k=g;omega);clear G ba bk Q J M ha I;generalize b.length-d.sum=m1,(b.drop d.sum).length-p=mm at *;go_upto_region 7 with fail;go_quiet (fail);go_wp2;go_ret2;refine⟨_,_,rfl,?_,?_,?_,?_⟩;·exact di.out
   ·first | exact a5.out | (have h:=a5.out;rw[lk]at h;exact h)
   ·exact⟨o,(Fr.drewN (Fr.refl wr) _).heap O,m,hF.fr (Fr.drewN (Fr.refl wr) _),hO.fr (Fr.drewN (Fr.refl wr) _)⟩
   ·exact dj.trans (vI (λk=>k=g) wr _) λ_ _ h=>h
def JM(g:Nat)(d:List Nat)(w:World)(h o z A D F G I J K:Value)(m:w.heap[g]?=some (.cells #[h,o,z,A,D,F,G,I,J,K] 107 (0,0)))
  (hs:ah w eJ h d) (hl:d.length<=1000000) (hb:d.sum<=1000000000000000) :
  Calls Tryz.prog 90 #[.pointer (some ⟨g,0,none⟩)] w λe w'=>e=.returned (N d.sum)/\w=w':=by
 have L:=ad (yC h d w hs hl hb);obtain⟨M,O,rfl,_⟩:=hs.shape;have Q:=ag m 0 rfl;clear hs m;go_in;go_wp2_with fail;apply L.z;rintro e R ⟨rfl,rfl⟩;go_wp2;go_ret;exact⟨rfl,rfl⟩
def XR(g:Nat)(d:List Nat)(w:World)(h z A D F G I J K L:Value)(m:w.heap[g]?=some (.cells #[h,z,A,D,F,G,I,J,K,L] 107 (0,0)))
  (hs:ah w eJ h d) (hl:d.length<=1000000) :
  Calls Tryz.prog 24 #[.pointer (some ⟨g,0,none⟩)] w λe w'=>∃v,e=.returned v/\Ow w' w.heap.size eJ v d/\Fr w w':=by
 have M:=ad (Xw h d w hs ω);obtain⟨Q,R,rfl,_⟩:=hs.shape;have U:=ag m 0 rfl;clear hs m;go_in;go_wp2_with fail;apply M.z;rintro e V ⟨u,rfl,o,O⟩;obtain⟨X,Y,rfl⟩:=o.shape';go_wp2;go_ret;exact⟨_,rfl,o,O⟩
def Rm:Op:=Op.load 82 (.tmp 26)
attribute [local go_sem] Rm
def jO(o:dV)(b:Z0):Nat:=if jN o then pQ o.bu.toNat b else 9
structure mh (w:World) (g base:Nat) (B:iF):Prop where
 h : ∃cv sv tv lv xv yv fv av, w.heap[g]? = some (.cells #[cv, sv, N B.cols, N B.index, tv, lv, xv, yv, fv, av] 107 (0, 0)) ∧ Ow w base eJ cv B.counts ∧ Ow w base eJ sv B.sizes ∧ Ow w base eQ tv B.times ∧ Ow w base eB lv B.levels ∧ Ow w base eS xv B.terms ∧
  (∃qs,Ow w base rW yv qs/\cr w base eJ qs B.lists)/\(∃ps,Ow w base aO fv ps/\cr w base eB ps B.frames)
 ge:base<=g
theorem Fg(d:Nat)(b:Z0):pQ d b=if kQ b=0 then
  (if nC (bC b) (gP b).length = 0 then
    (if mM (dm (bC b)).1 (kB b) = 0 then
      (if cK (jm b) = 0 then (iY d (dm (bC b)).1 (bE (jm b))).2.2 else cK (jm b))
     else mM (dm (bC b)).1 (kB b))
   else nC (bC b) (gP b).length)
 else kQ b:=rfl
def Ho(b:Z0)(m:Nat)(h:nC b m=0):(cV b).1.sum=(dm b).1/\(cV b).2.1.sum+(j9 b).1+(jQ b).1=m:=by
 rw[Hp]at h;split at h
 ·split at h;·cases h
  ·rename_i d;refine⟨wG λe=>d (.inr (.inl e)),wG λe=>d (.inr (.inr e))⟩
 ·rename_i d;exact absurd h d
def IP(b:Z0):(gP b).length<=b.length/\(bC b).length<=b.length:=by
 refine⟨by unfold gP;rw[aA];omega,ay (B6 _) ?_⟩;unfold pY;rw[aN,aA];omega
def Hv(l:List Nat):∀b:Z0,(iC l b).length=l.length:=by
 induction l with
 | nil=>intro b;rfl
 | cons z l d=>intro b;rw[iC,aL,aL,d]
def Vg(o:dV)(v:Value)(b:Z0)(w:World)(hs:ah w eB v b)(hl:b.length<=1000000)(ht:cP w):Calls Tryz.prog 50 #[fq o,v] w λe w'=>∃pv,e=.returned (.tuple #[pv,.int .i64 (jO o b:Int)])/\(jO o b=0->∃g,pv=.pointer (some ⟨g,0,none⟩)/\mh w' g w.heap.size (iz o.bu.toNat b))/\(¬jO o b=0->pv=.pointer none)/\Fr w w':=by
 have HC:=ad (λW=>IQ o W);obtain⟨a0,hf,rfl,_⟩:=hs.shape;obtain⟨L,M,F,O,Q,R⟩:=o;have HC:Hid (∀W,Calls Tryz.prog 31 #[.agg #[.int .i64 L,.bool M,.int .i64 F,.int .i64 O,.int .i64 Q,.int .i64 R]] W λe w'=>e=.returned (.int .i64 (if jN ⟨L,M,F,O,Q,R⟩then 0 else 9))/\Fr W w'):=HC.out;show Calls Tryz.prog 50 #[.agg #[.int .i64 L,.bool M,.int .i64 F,.int .i64 O,.int .i64 Q,.int .i64 R],.slice a0 b.length hf] w _;show Calls _ _ _ _ λe w'=>∃pv,e=.returned (.tuple #[pv,.int .i64 (jO ⟨L,M,F,O,Q,R⟩ b:Int)])/\(jO ⟨L,M,F,O,Q,R⟩ b=0->∃g,pv=.pointer (some ⟨g,0,none⟩)/\mh w' g w.heap.size (iz F.toNat b))/\(¬jO ⟨L,M,F,O,Q,R⟩ b=0->pv=.pointer none)/\Fr w w';have b4:Fr w (w.alloc (.cells #[.int .i64 L,.bool M,.int .i64 F,.int .i64 O,.int .i64 Q,.int .i64 R] 23)):=(Fr.refl w).alloc _;have cm:=aB w (.cells #[.int .i64 L,.bool M,.int .i64 F,.int .i64 O,.int .i64 Q,.int .i64 R] 23) w.heap.size rfl;cases ho:jN ⟨L,M,F,O,Q,R⟩with
 | false=>have m:Hid (jO ⟨L,M,F,O,Q,R⟩ b=9):=(by show _=_;unfold jO;rw[ho];rfl);rw[ho]at HC;rw[m.out];clear cm;go_in;go_wp2_with fail;refine(HC.out _).mono ?_;rintro e w1 ⟨rfl,bl⟩;have hg:=b4.trans bl;clear HC b4;go_wp2;go_ret2;exact⟨_,rfl,λh=>absurd h δ,λ_=>rfl,hg⟩
 | true=>
  have hE:jO ⟨L,M,F,O,Q,R⟩ b=pQ F.toNat b:=(by unfold jO;rw[ho];rfl);rw[ho]at HC;obtain⟨_,_,cn,cp⟩:=(xJ _).1 ho;have cn:1<=F:=cn;have cp:F<=64:=cp;rw[hE];clear hE ho;obtain⟨G,hh⟩:∃G,G=F.toNat:=⟨_,rfl⟩;obtain rfl:F=(G:Int):=ω;rw[zn];have hi:1<=G:=ω;have hj:G<=64:=ω;have dT:=ad (λW (h:Fr w W)=>S9 _ b W (hs.fr h) hl (ht.fr h));have m:=ad (Fg G b);obtain⟨ij,it⟩:=IP b;have ec:=ad (λW (h:Fr w W)=>ht.fr h);clear hh cn cp hs ht;generalize hm:pQ G b=U at *;go_in;go_wp2_with fail;refine(HC.out _).mono ?_;rintro e w1 ⟨rfl,bl⟩;have ef:=b4.trans bl;have el:=bl.heap cm;have eq:=ad (dT.out w1 ef);clear HC b4 cm bl dT hm;go_wp2_with fail;apply eq.z;rintro e d ⟨rv,dv,rfl,cq,er⟩;have V:=ef.trans er;have b5:=er.heap el;clear eq el;by_cases a7:kQ b=0
  ·rw[af a7]at m;obtain⟨ct,cu⟩:=cq a7;obtain⟨ra,rc,rfl,_⟩:=ct.shape;obtain⟨da,dc,rfl⟩:=cu.shape';have es:((kQ b:Nat):Int)=0:=ω;rw[es];clear cq a7 es;have c0:Fr d (d.alloc (.cells #[.slice none 0 0,.slice none 0 0,.int .i64 0,.int .i64 0,.slice none 0 0,.slice none 0 0,.slice none 0 0,.slice none 0 0,.slice none 0 0,.slice none 0 0] 107)):=(Fr.refl d).alloc _;have ev:=aB d (.cells #[.slice none 0 0,.slice none 0 0,.int .i64 0,.int .i64 0,.slice none 0 0,.slice none 0 0,.slice none 0 0,.slice none 0 0,.slice none 0 0,.slice none 0 0] 107) d.heap.size rfl;have hn:d.heap.size<(d.alloc (.cells #[.slice none 0 0,.slice none 0 0,.int .i64 0,.int .i64 0,.slice none 0 0,.slice none 0 0,.slice none 0 0,.slice none 0 0,.slice none 0 0,.slice none 0 0] 107)).heap.size:=σ;have e0:=c0.heap b5;have e1:=ad (Tx d.heap.size (gP b).length _ (bC b) _ ev (cu.see.fr c0) ω ω);have hp:=B1 (bC b);have e2:=Ho (bC b) (gP b).length;have HB:Hid (iz G b=⟨(cV (bC b)).1,(cV (bC b)).2.1,(j9 (bC b)).1,(jQ (bC b)).1,iC (cV (bC b)).2.1 (gP b),(fi (dm (bC b)).1 (bE (kB b))).1,(fi (dm (bC b)).1 (bE (kB b))).2.1,(iY G (dm (bC b)).1 (bE (jm b))).1,(iY G (dm (bC b)).1 (bE (jm b))).2.1⟩):=rfl;have e3:Hid (((gP b).drop (cV (bC b)).2.1.sum).take (j9 (bC b)).1=kB b):=rfl;have e4:Hid (((gP b).drop (cV (bC b)).2.1.sum).drop (j9 (bC b)).1=jm b):=(by show _=_;unfold jm vQ;rw[lk]);have c1:Hid ((jm b).length<=1000000/\(kB b).length<=1000000):=by
    refine⟨?_,?_⟩;·unfold jm;rw[aN];omega
    ·unfold kB;rw[aA,aN];omega
   have i7:w.heap.size<d.heap.size:=(aR.1 b5).1;clear c0 ev cu b5;generalize gP b=rest,jm b=idx,kB b=col,bC b=dir,(jQ (bC b)).1=q,(j9 (bC b)).1=p,(cV (bC b)).2.1=zs,(cV (bC b)).1=cs,(dm (bC b)).1=n,nC (bC b) (gP b).length=dE at *;obtain⟨r1,_,r3,r4,r5,r6,r7,r8⟩:=hp;have hu:w.heap.size<=d.heap.size:=V.size;have e8:=ad ct;clear ct;go_wp2_with fail;have eL:Fr d (d.alloc (.cells #[.slice none 0 0,.slice none 0 0,.int .i64 0,.int .i64 0,.slice none 0 0,.slice none 0 0,.slice none 0 0,.slice none 0 0,.slice none 0 0,.slice none 0 0] 107)):=(Fr.refl d).alloc _;generalize d.alloc (.cells #[.slice none 0 0,.slice none 0 0,.int .i64 0,.int .i64 0,.slice none 0 0,.slice none 0 0,.slice none 0 0,.slice none 0 0,.slice none 0 0,.slice none 0 0] 107)=w3 at *;apply e1.z;rintro e w4 ⟨rfl,fb,fe⟩;have bm:Fr d w4:=((eL.chg (λk=>k=d.heap.size)).trans fe λ_ _ h=>h).fr (λk hk e=>by have e:k=d.heap.size:=e;omega);have c4:=fe.heap e0 (λe=>by have e:w.heap.size=d.heap.size:=e;omega);clear e1 e0 eL;by_cases aC:dE=0
   ·rw[af aC]at m;obtain⟨c5,fh⟩:=e2 aC;have fk:((dE:Nat):Int)=0:=ω;rw[fk];clear e2 aC fk;obtain⟨cv,sv,b8,c6,b9,_⟩:=fb.h;obtain⟨sa,sc,rfl⟩:=b9.shape';obtain⟨ca,cc,rfl⟩:=c6.shape';have c7:=ad (Ve d.heap.size p w3.heap.size _ rest zs d w4 _ _ _ _ _ _ _ _ b8 b9 e8.out bm (al _) hn ω ω r4);rw[e3.out,e4.out]at c7;have bn:=V.trans bm;clear e8 e3 e4 fb;go_wp2_with fail;apply c7.z;rintro e D ⟨kv,iv,rfl,cA,cB,⟨fv,A,ap,cF,cG⟩,bs⟩;obtain⟨ka,kc,rfl,_⟩:=cA.shape;obtain⟨ia,ic,rfl,_⟩:=cB.shape;obtain⟨fa,fc,rfl⟩:=cF.shape';have fl:A.length=zs.length:=(by rw[cG.1,Hv]);have h1:A.length<=20000:=ω;have fm:=(eY c6 b8 δ bs).rebase (show w.heap.size<=w3.heap.size by omega);have fn:=(eY b9 b8 δ bs).rebase (show w.heap.size<=w3.heap.size by omega);have fr:=cF.rebase (show w.heap.size<=w4.heap.size from bn.size);have fs:=cG.rebase (show w.heap.size<=w4.heap.size from bn.size);have f0:Fr d D:=((bm.chg (λk=>k=d.heap.size)).trans bs λ_ _ h=>h).fr (λk hk e=>by have e:k=d.heap.size:=e;omega);have f1:=bs.heap c4 (λe=>by have e:w.heap.size=d.heap.size:=e;omega);have kk:=ad fl;clear c7 c6 b9 b8 cF cG bm bs c4 bn fl;have h2:=oQ eO rfl rfl 105 Tryz.underlying105 .i64 .i64 A.length ω D;have cL:Fr D (D.alloc (.cells (madeCells #[eO.z] A.length) eO.e)):=(Fr.refl D).alloc _;rw[show(eO:aw Tryz.prog Bool).e=4 from rfl]at *;generalize madeCells #[eO.z] A.length=T0 at *;have c8:=ag ap 8 rfl;have bA:=cL.heap ap;have e9:(D.alloc (.cells T0 4)).cell? ⟨d.heap.size,9,none⟩=some (.slice none 0 0):=(by rw[aK bA];rfl);have f9:(D.alloc (.cells T0 4)).frozen? ⟨d.heap.size,9,none⟩=false:=a8 bA 9;have Z:=aJ bA 9 (.slice (some ⟨D.heap.size,0,none⟩) A.length A.length);have f2:=a9 (D.alloc (.cells T0 4)) ⟨d.heap.size,9,none⟩ (.slice (some ⟨D.heap.size,0,none⟩) A.length A.length);have a1:ai (λk=>k=d.heap.size) D ((D.alloc (.cells T0 4)).setCell ⟨d.heap.size,9,none⟩ (.slice (some ⟨D.heap.size,0,none⟩) A.length A.length)):=(cL.chg _).trans f2 λ_ _ h=>h;have cN:=eY fm ap δ a1;have f3:=eY fn ap δ a1;have f4:=eY fr ap δ a1;have f5:=qO fs ap δ a1;have fB:=a1.heap f1 (λe=>by have e:w.heap.size=d.heap.size:=e;omega);have bv:Fr d ((D.alloc (.cells T0 4)).setCell ⟨d.heap.size,9,none⟩ (.slice (some ⟨D.heap.size,0,none⟩) A.length A.length)):=((f0.chg (λk=>k=d.heap.size)).trans a1 λ_ _ h=>h).fr (λk hk e=>by have e:k=d.heap.size:=e;omega);clear cL bA f2 fm fn fr fs f1 f0 a1 ap;go_upto_region 13 with fail;generalize (D.alloc (.cells T0 4)).setCell ⟨d.heap.size,9,none⟩ (.slice (some ⟨D.heap.size,0,none⟩) A.length A.length)=w7 at *;clear h2 c8 e9 f9 h1;obtain⟨av,fC⟩:∃av,av=Value.slice (some ⟨D.heap.size,0,none⟩) A.length A.length:=⟨_,rfl⟩;have Z:w7.heap[d.heap.size]?=some (.cells #[.slice ca cs.length cc,.slice sa zs.length sc,N p,N q,.slice none 0 0,.slice none 0 0,.slice none 0 0,.slice none 0 0,.slice fa A.length fc,av] 107 (0,0)):=(by rw[fC];exact Z);clear fC;have a2:=ad (λW (h:Fr w7 W)=>JM d.heap.size cs W _ _ _ _ _ _ _ _ _ _ (h.heap Z) (cN.see.fr h) ω ω);rw[c5]at a2;have h6:=c1.out;have fD:=ad (λW (h:Fr w7 W)=>Ul d.heap.size n r1 _ col W _ _ _ _ _ _ _ _ (h.heap Z) (cA.fr (bv.trans h)) h6.2 (ec.out W ((V.trans bv).trans h)));have h7:=ad c5;have kl:=ad fh;clear cA c5 fh;generalize h8:mM n col=cE at *
    go_region_held3 (λ_ => True) (first | trivial | go_keep)
     ((first
       | (go_at_call 90; refine (a2.out _ (by first | exact Fr.refl _ | exact (Fr.refl _).drew)).mono ?_; rintro e wx ⟨rfl, rfl⟩)
       | (go_at_call 89; refine (fD.out _ (by first | exact Fr.refl _ | exact (Fr.refl _).drew)).mono ?_; rintro e w8 ⟨rfl, fN, cT⟩)))
    have a3:ai (λk=>k=d.heap.size) w7 w8:=(by first | exact cT | exact(((Fr.refl w7).drew.chg (λk=>k=d.heap.size)).trans cT λ_ _ h=>h));have bx:Fr d w8:=((bv.chg (λk=>k=d.heap.size)).trans a3 λ_ _ h=>h).fr (λk hk e=>by have e:k=d.heap.size:=e;omega);have di:=a3.heap fB (λe=>by have e:w.heap.size=d.heap.size:=e;omega);have fP:=eY cN Z δ a3;have fQ:=eY f3 Z δ a3;have fS:=eY f4 Z δ a3;have ga:=qO f5 Z δ a3;have gb:w.heap.size<=w7.heap.size:=(V.trans bv).size;clear a2 fD cN f3 f4 f5 fB bv Z cT a3;by_cases bc:cE=0
    ·rw[af bc]at m;obtain⟨tu,lu,gc,bR,bT⟩:=fN bc;have bR:=bR.rebase (show w.heap.size<=_ from gb);have bT:=bT.rebase (show w.heap.size<=_ from gb);have ge:((cE:Nat):Int)=0:=ω;rw[ge];clear fN bc ge h8;have gg:=ad (uf _ idx w8 (cB.fr bx) c1.out.1 (ec.out w8 (V.trans bx)));generalize hA:cK idx=xE at *;have hB:(bE idx).length<=1000000:=ay (B6 idx) c1.out.1;generalize bE idx=xq at *;clear cB;go_wp2_with fail;apply gg.z;rintro e w9 ⟨xu,rfl,dj,aa⟩;obtain⟨xa,xc,rfl⟩:=dj.shape';have ds:=bx.trans aa;have d0:=aa.heap gc;have cf:=aa.heap di;have d1:=fP.fr aa;have gs:=fQ.fr aa;have gv:=fS.fr aa;have g0:=ga.fr aa;have g1:=bR.fr aa;have g2:=bT.fr aa;clear gg bx gc di fP fQ fS ga bR bT hA;by_cases b0:xE=0
     ·rw[af b0]at m;have g3:((xE:Nat):Int)=0:=ω;rw[g3];have d2:w.heap.size<=w9.heap.size:=(V.trans ds).size;have a2:=ad (λW (h:Fr w9 W)=>JM d.heap.size cs W _ _ _ _ _ _ _ _ _ _ (h.heap d0) (d1.see.fr h) ω ω);rw[h7.out]at a2;have g4:=ad (λW (h:Fr w9 W)=>Xf G n hi hj r1 _ xq W (dj.see.fr h) hB);have x2:=ag cf 2 rfl;clear b0 g3 dj;generalize iY G n xq=Y at *;go_upto_region 19 with fail
      go_region_held3 (λW => W.cell? ⟨w.heap.size, 2, none⟩ = some (N G)) (first | exact g5 | exact g6 _ | exact g7 _ _ | go_keep)
       ((first
         | (go_at_call 90; refine (a2.out _ (by first | exact Fr.refl _ | exact (Fr.refl _).drew)).mono ?_; rintro e wx ⟨rfl, rfl⟩)
         | (go_at_call 92; refine (g4.out _ (by first | exact Fr.refl _ | exact (Fr.refl _).drew)).mono ?_; rintro e J ⟨qt, ql, rfl, d3, ⟨qs, d4, g8⟩, b1⟩
            obtain ⟨qa, qc, rfl⟩ := d3.shape'
            obtain ⟨la, lc, rfl⟩ := d4.shape'
            have I := b1.heap (show w9.drew.heap[d.heap.size]? = _ from d0)
            have ch := b1.heap (show w9.drew.heap[w.heap.size]? = _ from cf)
            have g5 := ag ch 2 rfl
            have g6 : ∀u, (J.setCell ⟨d.heap.size, 6, none⟩ u).cell? ⟨w.heap.size, 2, none⟩ = some (N G) := λu => by rw[aK ((a9 J ⟨d.heap.size, 6, none⟩ u).heap ch (λe => by have e : w.heap.size = d.heap.size := e; omega))]; rfl
            have g7 : ∀u z, ((J.setCell ⟨d.heap.size, 6, none⟩ u).setCell ⟨d.heap.size, 7, none⟩ z).cell? ⟨w.heap.size, 2, none⟩ = some (N G) := λu z => by rw[aK ((a9 (J.setCell ⟨d.heap.size, 6, none⟩ u) ⟨d.heap.size, 7, none⟩ z).heap ((a9 J ⟨d.heap.size, 6, none⟩ u).heap ch (λe => by have e : w.heap.size = d.heap.size := e; omega)) (λe => by have e : w.heap.size = d.heap.size := e; omega))]; rfl
            have e6 := ag I 6 rfl
            have e7 := ag I 7 rfl
            have f6 : J.frozen? ⟨d.heap.size, 6, none⟩ = false := a8 I 6
            have f7 : J.frozen? ⟨d.heap.size, 7, none⟩ = false := a8 I 7)))
      have gO:=aJ I 6 (.slice qa Y.1.length qc);have hL:=aJ gO 7 (.slice la qs.length lc);have ha:=a9 J ⟨d.heap.size,6,none⟩ (.slice qa Y.1.length qc);have hb:=a9 (J.setCell ⟨d.heap.size,6,none⟩ (.slice qa Y.1.length qc)) ⟨d.heap.size,7,none⟩ (.slice la qs.length lc);have X:ai (λk=>k=d.heap.size) J ((J.setCell ⟨d.heap.size,6,none⟩ (.slice qa Y.1.length qc)).setCell ⟨d.heap.size,7,none⟩ (.slice la qs.length lc)):=ha.trans hb λ_ _ h=>h;have aj:Fr w9 J:=(by first | exact b1 | exact(Fr.refl w9).drew.trans b1);have hM:=eY (d3.rebase (show w.heap.size<=_ from d2)) I δ X;have hO:=eY (d4.rebase (show w.heap.size<=_ from d2)) I δ X;have hR:=qO (g8.rebase (show w.heap.size<=_ from d2)) I δ X;have hS:=eY (d1.fr aj) I δ X;have hT:=eY (gs.fr aj) I δ X;have hU:=eY (gv.fr aj) I δ X;have hV:=qO (g0.fr aj) I δ X;have hW:=eY (g1.fr aj) I δ X;have hY:=eY (g2.fr aj) I δ X;have hc:Fr w ((J.setCell ⟨d.heap.size,6,none⟩ (.slice qa Y.1.length qc)).setCell ⟨d.heap.size,7,none⟩ (.slice la qs.length lc)):=(((V.trans (ds.trans aj)).chg (λk=>k=d.heap.size)).trans X λ_ _ h=>h).fr (λk hk e=>by have e:k=d.heap.size:=e;omega);clear g5 g6 g7 e6 e7 f6 f7 gO ha hb X I ch d3 d4 g8 d1 gs gv g0 g1 g2 d0 cf x2 a2 g4 b1 aj;generalize (J.setCell ⟨d.heap.size,6,none⟩ (.slice qa Y.1.length qc)).setCell ⟨d.heap.size,7,none⟩ (.slice la qs.length lc)=k0 at *;by_cases cj:Y.2.2=0;·have K:Hid (U=0):=m.out.trans cj;have i2:((Y.2.2:Nat):Int)=0:=ω;rw[i2];clear m cj i2;go_wp2;go_ret2;exact⟨_,by rw[K.out];rfl,λ_=>⟨d.heap.size,rfl,⟨by rw[HB.out];exact⟨_,_,_,_,_,_,_,_,hL,hS,hT,hW,hY,hM,⟨qs,hO,hR⟩,⟨A,hU,hV⟩⟩,hu⟩⟩,λh=>absurd K.out h,hc⟩
      ·have i2:¬(Y.2.2:Int)=0:=ω;have ab:¬U=0:=(by rw[m.out];exact cj);have K:Hid (U=Y.2.2):=m.out;clear m cj;go_wp2;go_ret2;exact⟨_,by rw[K.out];rfl,λh=>absurd h ab,λ_=>rfl,hc⟩
     ·rw[ae b0]at m;have i2:¬(xE:Int)=0:=ω;have ab:¬U=0:=(by rw[m.out];exact b0);have K:Hid (U=xE):=m.out;have hZ:=V.trans ds;clear m cf b0;go_wp2;go_ret2;exact⟨_,by rw[K.out];rfl,λh=>absurd h ab,λ_=>rfl,hZ⟩
    ·rw[ae bc]at m;have i2:¬(cE:Int)=0:=ω;have ab:¬U=0:=(by rw[m.out];exact bc);have K:Hid (U=cE):=m.out;have ih:=V.trans bx;clear m di bc;go_wp2;go_ret2;exact⟨_,by rw[K.out];rfl,λh=>absurd h ab,λ_=>rfl,ih⟩
   ·rw[ae aC]at m;have i2:¬(dE:Int)=0:=ω;have ab:¬U=0:=(by rw[m.out];exact aC);have K:Hid (U=dE):=m.out;have bn:=V.trans bm;clear m c4 aC;go_wp2;go_ret2;exact⟨_,by rw[K.out];rfl,λh=>absurd h ab,λ_=>rfl,bn⟩
  ·rw[ae a7]at m;have i2:¬(kQ b:Int)=0:=ω;have ab:¬U=0:=(by rw[m.out];exact a7);have K:Hid (U=kQ b):=m.out;clear m cq b5 a7;go_wp2;go_ret2;exact⟨_,by rw[K.out];rfl,λh=>absurd h ab,λ_=>rfl,V⟩
def fd(b:Z0):Nat:=if(bi b).1=0 then jO (dt (an b)) (bi b).2.1 else(bi b).1
def tx(b:Z0):dV:=if fd b=0 then dt (an b)else⟨0,false,0,0,0,0⟩
def pP(b:Z0):Nat:=if fd b=0 then(bi b).2.2 else 0
def iy(b:Z0):iF:=iz (iA (an b)) (bi b).2.1
def Wl(v:Value)(b:Z0)(w:World)(hs:ah w eB v b)(hF:so b)(ht:cP w):Calls Tryz.prog 22 #[v] w λe w'=>∃pv,e=.returned (.tuple #[fq (tx b),pv,N (pP b),.int .i64 (fd b:Int)])/\(fd b=0->∃g,pv=.pointer (some ⟨g,0,none⟩)/\mh w' g w.heap.size (iy b))/\(¬fd b=0->pv=.pointer none)/\Fr w w':=by
 have HM:=ad (λW (h:Fr w W)=>F6 v b W (hs.fr h) hF (ht.fr h));have bc:=ad (λW (h:Fr w W)=>ht.fr h);have a1:(Tryz.prog.info? 23).map (·.size)=some aY.size:=by kernel_rfl
 have bu:aY.all (·.oneCell')=true:=by rw[iI];rfl
 have a2:(w.alloc (.cells aY 23)).heap[w.heap.size]?=some (.cells aY 23 (0,0)):=aB _ _ _ rfl;have a3:Fr w (w.alloc (.cells aY 23)):=(Fr.refl w).alloc _;have cR:w.heap.size<(w.alloc (.cells aY 23)).heap.size:=σ
 obtain⟨a0,cc,rfl,_⟩:=hs.shape;clear hs ht;have V:=ad (HM.out _ a3);generalize cT:w.alloc (.cells aY 23)=W0 at *;have K:fd b=if(bi b).1=0 then jO (dt (an b)) (bi b).2.1 else(bi b).1:=rfl;by_cases M:(bi b).1=0
 ·obtain⟨ho,ch,cj,_⟩:=BL b M;rw[af M]at K;have X:pP b=if fd b=0 then(bi b).2.2 else 0:=rfl;have Y:tx b=if fd b=0 then dt (an b)else⟨0,false,0,0,0,0⟩:=rfl;have bv:Hid (fq (dt (an b))=.agg #[N (jz (an b)),.bool (hP (an b)),N (iA (an b)),N (hD (an b)),N (hQ (an b)),N (hC (an b))]):=rfl;have a4:=ad (λv W (h:Fr w W) (m:ah W eB v (bi b).2.1)=>Vg (dt (an b)) v (bi b).2.1 W m ω (bc.out W h));rw[<- K,bv.out]at a4;have bx:Hid (iz (dt (an b)).bu.toNat (bi b).2.1=iy b):=(by show iz ((iA (an b):Int)).toNat _=_;rw[zn];rfl);rw[bx.out]at a4;have b0:(((bi b).1:Nat):Int)=0:=ω;rw[b0]at V;have b1:=V.out;have b2:Hid (Calls Tryz.prog 25 #[.slice a0 b.length cc] W0 λe w'=>∃g Q u,e=.returned (.tuple #[.pointer (some ⟨g,0,none⟩),u,N (bi b).2.2,.int .i64 0])/\Ow w' W0.heap.size eB u (bi b).2.1/\Fr W0 w'/\w'.heap[g]?=some (of (jz (an b)) (hP (an b)) (iA (an b)) (hD (an b)) (hQ (an b)) (hC (an b)) (hN (an b)) Q)):=b1.mono λe w' h=>(by obtain⟨hv,u,z,m,D,F⟩:=h;obtain⟨g,Q,G,_,I⟩:=F M;exact⟨g,Q,u,by rw[z,G],m,D,I⟩);clear hF b0 b1 V HM K ho ch cj bc bx;rw[X,Y];clear X Y;generalize iy b=OB,fd b=Z at *;have b3:fq (if Z=0 then dt (an b)else⟨0,false,0,0,0,0⟩)=.agg (if Z=0 then #[N (jz (an b)),.bool (hP (an b)),N (iA (an b)),N (hD (an b)),N (hQ (an b)),N (hC (an b))]else aY):=(by split <;> rfl);rw[b3];generalize bi b=BR,hN (an b)=h7,hC (an b)=I,hQ (an b)=G,hD (an b)=F,iA (an b)=D,hP (an b)=m,jz (an b)=z at *;clear M b3 bv;go_in;go_upto_region 1 with fail;go_wp2_with fail;apply b2.z;rintro e w1 ⟨g,Q,u,rfl,hU,R,L⟩;obtain⟨ua,uc,rfl⟩:=hU.shape';have ab:=R.heap a2;have bk:=a3.trans R;have d0:=ag L 0 rfl;have d1:=ag L 1 rfl;have d2:=ag L 2 rfl;have d3:=ag L 3 rfl;have d4:=ag L 4 rfl;have d5:=ag L 5 rfl;have bA:=ad (a4.out _ w1 bk hU.see);clear b2 a4 hU a2;go_wp2_with fail;apply bA.z;rintro e O ⟨pv,rfl,bl,bm,bn⟩;have d:=bn.heap ab;have U:=bn.heap L;have a6:=bk.trans bn;clear bA L ab d0 d1 d2 d3 d4 d5;by_cases he:Z=0
  ·obtain⟨q,rfl,hB⟩:=bl he;have d0:=ag U 0 rfl;have d1:=ag U 1 rfl;have d2:=ag U 2 rfl;have d3:=ag U 3 rfl;have d4:=ag U 4 rfl;have d5:=ag U 5 rfl;have cl:(#[N z,.bool m,N D,N F,N G,N I]:Array Value).all (·.oneCell')=true:=(by rw[iI];rfl);have bL:(Tryz.prog.info? 23).map (·.size)=some (#[N z,.bool m,N D,N F,N G,N I]:Array Value).size:=(by kernel_rfl);have hG:=iq O w.heap.size aY #[N z,.bool m,N D,N F,N G,N I] 23 (0,0) d;have o:=dl O w.heap.size #[N z,.bool m,N D,N F,N G,N I];have aj:Fr w (O.setRow w.heap.size #[N z,.bool m,N D,N F,N G,N I]):=ai.below a6 o a6.size (λk hk=>by omega);have cm:mh (O.setRow w.heap.size #[N z,.bool m,N D,N F,N G,N I]) q w.heap.size OB:=by
    obtain⟨⟨cv,sv,tv,lv,Q,yv,fv,av,k0,k1,k2,k3,k4,k5,⟨qs,k6,k7⟩,⟨ps,k8,k9⟩⟩,bT⟩:=hB;have J:=bk.size;have cF:q≠w.heap.size:=by have:=bT;have h0:=(aR.1 (show O.heap[w.heap.size]?=_ from d)).1;intro e;rw[e,d]at k0;have cG:=jU k0;injection cG with _ k01;exact absurd k01 δ
    exact ⟨⟨cv, sv, tv, lv, Q, yv, fv, av, o.heap k0 cF, eY (k1.rebase J) d (by decide) o, eY (k2.rebase J) d (by decide) o, eY (k3.rebase J) d (by decide) o, eY (k4.rebase J) d (by decide) o, eY (k5.rebase J) d (by decide) o,
      ⟨qs, eY (k6.rebase J) d δ o, qO (k7.rebase J) d δ o⟩, ⟨ps, eY (k8.rebase J) d δ o, qO (k9.rebase J) d δ o⟩⟩, ay J bT⟩
   clear bl bm hB o;go_wp2_with (first | (refine fz rfl 23 (.tmp 2) (.tmp 38) rfl w.heap.size #[N z,.bool m,N D,N F,N G,N I] rfl rfl 23 _ d bL rfl cl ?_));go_wp2_with fail;(try simp only[Exit.inBlock,Exit.then]);refine bF (v:=.tuple #[.agg #[N z,.bool m,N D,N F,N G,N I],.pointer (some ⟨q,0,none⟩),N BR.2.2,.int .i64 0]) (Am Tryz.results22 _ _ w.heap.size 23 _ (0,0) _ _ _ _ rfl rfl rfl rfl hG Tryz.underlying23 rfl bL) rfl ?_;exact⟨_,rfl,⟨q,rfl,cm⟩,aj⟩
  ·have cL:=bm he;subst cL;have i2:¬(Z:Int)=0:=ω;have hG:=iq O w.heap.size aY aY 23 (0,0) d;have aj:Fr w (O.setRow w.heap.size aY):=ai.below a6 (dl _ _ _) a6.size (λk hk=>by omega);have ca:=ad he;clear bl bm he;go_wp2_with (first | (refine fz rfl 23 (.tmp 2) (.tmp 33) rfl w.heap.size aY rfl rfl 23 _ d a1 rfl bu ?_));go_wp2_with fail;(try simp only[Exit.inBlock,Exit.then]);refine bF (v:=.tuple #[.agg aY,.pointer none,.int .i64 0,.int .i64 (Z:Int)]) (Am Tryz.results22 _ _ w.heap.size 23 _ (0,0) _ _ _ _ rfl rfl rfl rfl hG Tryz.underlying23 rfl a1) rfl ?_;exact⟨_,rfl,rfl,aj⟩
 ·rw[ae M]at K;have ak:¬fd b=0:=(by rw[K];exact M);have X:pP b=0:=(by unfold pP;rw[ae ak]);have Y:tx b=⟨0,false,0,0,0,0⟩:=(by unfold tx;rw[ae ak]);rw[X,Y,K];rw[K]at ak;have i2:¬((bi b).1:Int)=0:=ω;clear K X Y;generalize bi b=BR at *;have ca:=ad ak;clear hF M ak bc;go_in;go_upto_region 1 with fail;go_wp2_with fail;apply V.z;rintro e w1 ⟨hv,u,rfl,hU,R,_⟩;have ab:=R.heap a2;have hG:=iq w1 w.heap.size aY aY 23 (0,0) ab;have aj:Fr w (w1.setRow w.heap.size aY):=ai.below (a3.trans R) (dl _ _ _) (a3.trans R).size (λk hk=>by omega);clear HM V a2 hU;go_wp2_with (first | (refine fz rfl 23 (.tmp 2) (.tmp 20) rfl w.heap.size aY rfl rfl 23 _ ab a1 rfl bu ?_));go_wp2_with fail;(try simp only[Exit.inBlock,Exit.then]);refine bF (v:=.tuple #[.agg aY,.pointer none,.int .i64 0,.int .i64 (BR.1:Int)]) (Am Tryz.results22 _ _ w.heap.size 23 _ (0,0) _ _ _ _ rfl rfl rfl rfl hG Tryz.underlying23 rfl a1) rfl ?_;exact⟨_,rfl,λh=>absurd h ca.out,λ_=>rfl,aj⟩
