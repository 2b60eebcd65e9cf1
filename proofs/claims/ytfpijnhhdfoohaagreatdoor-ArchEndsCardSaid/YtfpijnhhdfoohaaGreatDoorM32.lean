/- Parts of the proof of ArchEnds: Y8 Y9 YA V1 D0. -/
import Derived.Test.YtfpijnhhdfoohaaGreatDoorM26
import Derived.Test.YtfpijnhhdfoohaaGreatDoorM19
import Derived.Test.YtfpijnhhdfoohaaGreatDoorM21
import Derived.Test.YtfpijnhhdfoohaaGreatDoorM00
import Derived.Test.YtfpijnhhdfoohaaGreatDoorM25
import Derived.Test.YtfpijnhhdfoohaaGreatDoorM10
import Derived.Test.YtfpijnhhdfoohaaGreatDoorM01
import Derived.Test.YtfpijnhhdfoohaaGreatDoorM12
set_option linter.unusedVariables false
set_option linter.unusedSectionVars false
set_option linter.unusedSimpArgs false
set_option maxHeartbeats 8000000
set_option maxRecDepth 100000
namespace Go.Proofs.YtfpijnhhdfoohaaGreatDoor
open Go.RowKit Go.Fk
theorem lk{w d:World}{base g:Nat}{T:TypeId}{rest:List Value}{e:Value}{l:List UInt8}(h:dd w base g T rest e l)(m:Fr w d):dd d base g T rest e l:=⟨m.heap h.1,h.2.1.fr m,h.2.2⟩
theorem D5(v:Value)(d:List Nat)(base g:Nat)(T:TypeId)(rest:List Value)(A:Value)(l:List UInt8)(w:World)(hs:ai w eV v d)(G:d.length<=300)(a1:∀ x∈d,x<4294967296)(I:dd w base g T rest A l)
  (hT:T≠5/\T≠235/\T≠3) (hl:l.length<=900000000) (hsz:base<=w.heap.size) :
  Calls Tryz.prog 137 #[.pointer (some ⟨g,0,none⟩),v] w fun e X=>∃ cv J b,e=.returned cv/\kC X b cv (cJ d) g J/\dd X base g T rest J (l++lW (cJ d))/\br g A J w X:=by
 have bd:=ad (Sa v d w hs G a1);have K:=xS d;have L:=xT d;have b1:=I.2.2.1;have Y:=ad (fun z W b2 hO bl B m hb=>Se z (cJ d) b2 base g T hT.1 rest A l W bl hO B (by rw [K];exact G) L m hl hb);have Z:=ad (fun z W M m=>Sd z (cJ d) g W M (by rw [K];exact G) L m);have HN:=ad (fun z W M m=>EI z (cJ d) W M (by rw [K];exact G) L m);have a4:=ad (fun z W M m=>Sp z (cJ d) W M (by rw [K];exact G) L m);have a5:lW (cJ d)=if cI (cJ d)then fz (cJ d)else []:=rfl;have a6:=ad a5;clear hs a5 a1;generalize cJ d=a at *;have aa:=ad (fun k o=>(I.2.1.lt k o).2);clear K L;go_enter Tryz.func137, Tryz.ntmps137;go_wp2_with fail;refine bd.out.mono ?_;rintro e U ⟨z,rfl,q,V⟩;obtain⟨la,lc,rfl⟩:=q.shape';have O:=lk I V;have B:(Value.slice la a.length lc).ownBlock=none\/(Value.slice la a.length lc).ownBlock≠A.ownBlock:=by
  cases o:(Value.slice la a.length lc).ownBlock with
  | none=>exact .inl rfl
  | some k=>exact .inr fun e=>by have D:=(q.lt k o).1;have h2:=aa.out k e.symm;omega
 cases m:cI a with
 | true=>
  have Q:=ad (Y.out _ U _ q O B m (az hsz V.size));have aC := ad (fun W J (bs : br g A J U W) => (q.chg bs.1 fun k o e => by
   rcases e with e | e;· exact q.ne_cells O.1 hT.1 (by rw [o, e])
   · rcases B with D | D;· rw [D] at o; cases o
     · exact D (o.trans e.symm)).see)
  clear I O B q Y Z a4 aa;go_wp2_with fail;refine Q.out.mono ?_;rintro e F ⟨rfl,ba,aj,bb⟩;have ak:=ad (HN.out _ F (aC.out F ba bb) m);clear Q aC;go_wp2_with fail;refine ak.out.mono ?_;rintro e w3 ⟨g2,c,rfl,hH,R⟩;go_wp2_with fail;go_ret;refine⟨_,ba,F.heap.size,rfl,.inr ⟨m,g2,c,rfl,hH,?_,?_⟩,?_,?_⟩;· have D:=hH.up;have h2:=(aM.1 aj.1).1;omega
  · cases o:(c 0).ownBlock with
    | none=>exact .inl rfl
    | some k=>exact .inr fun e=>by have D:=(hH.own0.lt k o).1;have h2:=(aj.2.1.lt k e.symm).2;omega
  · rw [a6.out,m];exact lk aj R
  · exact br.fr V (bb.frR R)
 | false=>have Q:=ad (Z.out _ U q.see m);have bc:=ad (fun W (h:Fr U W)=>(q.fr h).see);have b0:=ad O;clear I O B q Y Z HN aa;go_wp2_with fail;refine Q.out.mono ?_;rintro e F ⟨rfl,av⟩;have ak:=ad (a4.out _ F (bc.out F av) m);clear Q bc;go_wp2_with fail;refine ak.out.mono ?_;rintro e w3 ⟨rfl,R⟩;go_wp2_with fail;go_ret;refine⟨_,A,0,rfl,.inl ⟨m,rfl⟩,?_,(br.refl g A w).frR ((V.trans av).trans R)⟩;have e:lW a=[]:=(by rw [a6.out,m];rfl);rw [e,gq];exact lk (lk b0.out av) R
theorem wY(a:List UInt8)(s:Nat)(h:∀ c∈a,c.toNat<=15):(fW a s).length<=15:=by
 unfold fW;split;· exact Ej a s h
 · simp
theorem G6(A B:List UInt8)(t:aW)(h:t.len=0):lp A B t=fW A (aV t).sym:=by unfold lp;rw [ag h,gq]
theorem G5(A B:List UInt8)(t:aW)(h:t.len≠0):lp A B t=fW A (aV t).sym++(cO (aV t).len ((aV t).sym - 257)++(fW B (aV t).dist++cO (aV t).far (aV t).dist)):=by unfold lp;rw [ae h]
theorem Kl(t:aW)(h:ez t=true)(d:t.len≠0):(aV t).len<2 ^ ((aV t).sym - 257)/\(aV t).far<2 ^ (aV t).dist:=by
 obtain⟨_,m,o,e,q⟩:=qL t h d;unfold aV;rw [ae d];refine⟨?_,AZ _ e⟩;show jE (t.len - 2)<2 ^ (257+gK (t.len - 2) - 257);rw [show 257+gK (t.len - 2) - 257=gK (t.len - 2) by omega];exact AZ _ (by omega)
theorem G4(t:aW)(z:ez t=true)(A B:List UInt8)(bA bB:Nat)(I J:Value)(base g:Nat)(T:TypeId)(h:Value)(l:List UInt8)(w:World)(D:dd w base g T [I,J] h l)(h1:kC w bA I A g h)(h2:kC w bB J B g h)
  (hT:T≠5/\T≠235/\T≠3) (hA:A.length<=300) (hB:B.length<=300) (hA15:∀ c∈A,c.toNat<=15) (hB15:∀ c∈B,c.toNat<=15) (hl:l.length<=800000000) (hsz:base<=w.heap.size) :
  Calls Tryz.prog 138 #[.pointer (some ⟨g,0,none⟩),lX t] w fun e w'=>e=.returned (.tuple #[])/\∃ a2,dd w' base g T [I,J] a2 (l++lp A B t)/\br g h a2 w w':=by
 have bT:Hid (∀ W,Calls Tryz.prog 177 #[lX t] W fun e w'=>e=.returned (.tuple #[.agg #[N (aV t).sym,N (aV t).len,N (aV t).dist,N (aV t).far],.int .i64 0])/\Fr W w'):=fun W=>Ez t W z;have ca:=ad (fun s W h m (hs:s<=1000000) (z:m.length<=900000000) hc D Z=>yB A bA s I base g T [I,J] h m W hc D hA hA15 hs z Z);have cb:=ad (fun s W h m (hs:s<=1000000) (z:m.length<=900000000) hc D Z=>yB B bB s J base g T [I,J] h m W hc D hB hB15 hs z Z);have bd:=ad (fun x n hn hx a2 m W D z Z=>yD x n hn hx base g T [I,J] a2 m W D z Z);have cE:=ad (fun s=>wY A s hA15);have cF:=ad (fun s=>wY B s hB15);have cG:=xg t z;have cL:=ad (Kl t z);have cc:=ad (G6 A B t);have cf:=ad (G5 A B t);have ch:Fr w (w.alloc (.cells #[.int .u8 (t.lit.toNat:Int),N t.len,N t.dist] 212)):=(Fr.refl w).alloc _;obtain⟨eq,er,es,ev,a3,a4⟩:=cG;clear hA15 hB15 hA hB;go_enter Tryz.func138, Tryz.ntmps138;go_wp2_with fail;refine(bT.out _).mono ?_;rintro e K ⟨rfl,cj⟩;have bf:=ch.trans cj;have ck:Fr K (K.alloc (.cells #[N (aV t).sym,N (aV t).len,N (aV t).dist,N (aV t).far] 276)):=(Fr.refl K).alloc _;have a5:(K.alloc (.cells #[N (aV t).sym,N (aV t).len,N (aV t).dist,N (aV t).far] 276)).heap[K.heap.size]?=some (.cells #[N (aV t).sym,N (aV t).len,N (aV t).dist,N (aV t).far] 276 (0,0)):=a9 _ _ _ rfl;have R:=bf.trans ck;have bk:K.heap.size≠g:=by have:=(aM.1 (bf.heap D.1)).1;omega
 generalize cN:(aV t).sym=o at *;generalize cR:(aV t).dist=Q at *;generalize cT:(aV t).len=le at *;generalize da:(aV t).far=fa at *;clear cN cR cT da ch cj bf bT;go_upto_region 2 with fail;generalize K.alloc (.cells #[N o,N le,N Q,N fa] 276)=F at *;generalize K.heap.size=pb at *;have U:=lk D R;have bm:=h1.fr R;have cl:=h2.fr R;have cm:br g h h w F:=(br.refl g h w).frR R;have bs:=az hsz R.size;clear D h1 h2 R ck;have k2:F.cell? ⟨g,2,none⟩=some I:=by rw [aA U.1];rfl
 have p0:=af a5 0 rfl;have ab:Fr F F.drew:=(Fr.refl F).drew;have cn:=ad (ca.out o F.drew h l (by omega) (by omega) (bm.fr ab) (lk U ab) (az bs ab.size));go_still_tail 9,(by kernel_rfl);change wpList _ _ _ _ _ F.drew;generalize q:F.drew=WD at *;have V:=ad q;clear q;go_wp2_with fail;refine cn.out.mono ?_;rintro e L ⟨⟨r4,rfl⟩,ac,X,cp⟩;have M:h.ownBlock≠some pb:=U.2.1.ne_cells a5 (by decide);have d:br g h ac F L:=br.fr ab cp;have aj:=d.heap a5 bk M;have dr:=bm.step U hT d;have cq:=cl.step U hT d;have bx:=cm.trans d;have b0:=az bs d.1.size;have cs:(l++fW A o).length<=l.length+15:=by rw [aD];have:=cE.out o;omega
 clear cn U bm cl a5 k2 p0 d cp cm bs V M ab;have p0:=af aj 0 rfl;have p1:=af aj 1 rfl;by_cases Y:t.len=0;· have dv:(o:Int)<256:=(by have:=a3.2 Y;omega);have HE:Hid (l++lp A B t=l++fW A o):=(by show _=_;rw [cc.out Y]);clear cc cf ca cb bd a3 a4;go_wp2_with fail;refine aL (results_none rfl _ _ _) rfl ?_;exact⟨rfl,ac,by rw [HE.out];exact X,bx⟩
 · have dv:¬(o:Int)<256:=(by have:=a4 Y;omega);have e1:257<=o:=a4 Y;obtain⟨ct,cu⟩:=cL.out Y;obtain⟨m4,b2⟩:∃ m4,m4=l++fW A o:=⟨_,rfl⟩;rw [<- b2]at X cs;have d0:=ad b2;have d1:=ad cu;have a6:Fr L L.drew:=(Fr.refl L).drew;have cv:=ad (bd.out le (o - 257) (by omega) ct ac m4 L.drew (lk X a6) (by omega) (az b0 a6.size));have d2:(o:Int) - 257=((o - 257:Nat):Int):=(by omega);have d3:IntKind.u64.wrap (le:Int)=le:=eu _ (by omega);have e2:=ad a3;clear a3 a4 b2 ct cu;go_upto_region 4 with fail;go_still_tail 9,(by kernel_rfl);change wpList _ _ _ _ _ L.drew;generalize q:L.drew=WD at *;have V:=ad q;clear q;go_wp2_with fail;refine cv.out.mono ?_;rintro e G ⟨rfl,a7,ap,c0⟩;have M:ac.ownBlock≠some pb:=X.2.1.ne_cells aj (by decide);have d:br g ac a7 L G:=br.fr a6 c0;have aC:=d.heap aj bk M;have pP:=cq.step X hT d;have c1:=bx.trans d;have b3:=az b0 d.1.size;have c3:(m4++cO le (o - 257)).length<=l.length+23:=(by rw [aD,nM];omega);clear cv X dr cq aj p0 p1 d c0 bx b0 V M a6 cs d2 d3;obtain⟨m5,b4⟩:∃ m5,m5=m4++cO le (o - 257):=⟨_,rfl⟩;rw [<- b4]at ap c3;have d4:=ad b4;clear b4;have k3:G.cell? ⟨g,3,none⟩=some J:=(by rw [aA ap.1];rfl);have p2:=af aC 2 rfl;have a0:Fr G G.drew:=(Fr.refl G).drew;have c5:=ad (cb.out Q G.drew a7 m5 (by omega) (by omega) (pP.fr a0) (lk ap a0) (az b3 a0.size));go_upto_region 5 with fail;go_still_tail 9,(by kernel_rfl);change wpList _ _ _ _ _ G.drew;generalize q:G.drew=e3 at *;have V:=ad q;clear q;go_wp2_with fail;refine c5.out.mono ?_;rintro e O ⟨⟨r6,rfl⟩,b5,c6,c7⟩;have M:a7.ownBlock≠some pb:=ap.2.1.ne_cells aC (by decide);have d:br g a7 b5 G O:=br.fr a0 c7;have c8:=d.heap aC bk M;have d5:=c1.trans d;have d6:=az b3 d.1.size;have d7:(m5++fW B Q).length<=l.length+38:=(by rw [aD];have:=cF.out Q;omega);clear c5 ap pP aC k3 p2 d c7 c1 b3 V M a0 c3;obtain⟨m6,b6⟩:∃ m6,m6=m5++fW B Q:=⟨_,rfl⟩;rw [<- b6]at c6 d7;have d8:=ad b6;clear b6;have p2:=af c8 2 rfl;have p3:=af c8 3 rfl;have b7:Fr O O.drew:=(Fr.refl O).drew;have d9:=ad (bd.out fa Q (by omega) d1.out b5 m6 O.drew (lk c6 b7) (by omega) (az d6 b7.size));have e6:IntKind.u64.wrap (fa:Int)=fa:=eu _ (by omega);go_upto_region 6 with fail;go_still_tail 8,(by kernel_rfl);change wpList _ _ _ _ _ O.drew;generalize q:O.drew=e7 at *;have V:=ad q;clear q;go_wp2_with fail;refine d9.out.mono ?_;rintro e W7 ⟨rfl,c9,dT,ec⟩;have d:br g b5 c9 O W7:=br.fr b7 ec;have ef:=d5.trans d;have HE:Hid (l++lp A B t=m6++cO fa Q):=(by show _=_;rw [cf.out Y,d8.out,d4.out,d0.out];simp);go_wp2_with fail;go_end0;exact⟨rfl,c9,by rw [HE.out];exact dT,ef⟩
theorem F7{w:World}{base g:Nat}{T:TypeId}{p q d x:Value}{l:List UInt8}(h:dd w base g T [p,q] d l):dd (w.setCell ⟨g,2,none⟩ x) base g T [x,q] d l/\br g d d w (w.setCell ⟨g,2,none⟩ x):=
 ⟨⟨by have:=a8 h.1 2 x;simpa using this,dx h.2.1 h.2.2.1,h.2.2⟩,(ao w ⟨g,2,none⟩ x).mono (fun k _ e=>.inl e),fun _ e=>.inl e⟩
theorem F6{w:World}{base g:Nat}{T:TypeId}{p q d x:Value}{l:List UInt8}(h:dd w base g T [p,q] d l):dd (w.setCell ⟨g,3,none⟩ x) base g T [p,x] d l/\br g d d w (w.setCell ⟨g,3,none⟩ x):=
 ⟨⟨by have:=a8 h.1 3 x;simpa using this,dx h.2.1 h.2.2.1,h.2.2⟩,(ao w ⟨g,3,none⟩ x).mono (fun k _ e=>.inl e),fun _ e=>.inl e⟩
theorem kC.ptr{w:World}{b g:Nat}{d e:Value}{a:List UInt8}(h:kC w b d a g e):∃ p,d=.pointer p:=by
 rcases h with⟨_,h⟩ | ⟨_,m,c,h,_⟩;· exact⟨_,h⟩
 · exact⟨_,h⟩
theorem QK(v:Value)(l:List aW)(w:World)(R:ai w jp v l)(hn:l.length<=32768)(U:∀ t∈l,ez t=true) :
  Calls Tryz.prog 96 #[v] w fun e w'=>∃ u,e=.returned (.tuple #[u,.int .i64 0])/\Ow w' w.heap.size eB u (ej (sS (cJ (iw l)) (cJ (jo l)) l))/\Fr w w':=by
 have HS:=ad (fun W (h:Fr w W)=>R.fr h);have b0:=ad (S3 v l w R (by omega) U);obtain⟨a0,fk,rfl,fl,cN,fm⟩:=R.shape;unfold maxLen at cN;have F:209≠5/\209≠235/\209≠3:=by decide
 have b1:∀ x∈iw l,x<4294967296:=fun x Z=>by obtain⟨k,_,rfl⟩:=g6.1 Z;have:=wj l k;split <;> omega
 have b2:∀ x∈jo l,x<4294967296:=fun x Z=>by obtain⟨k,_,rfl⟩:=g6.1 Z;have:=Dd l k;omega
 have b4:(iw l).length=265:=by simp [iw]
 have b6:(jo l).length=12:=by simp [jo]
 have aa:(cJ (iw l)).length=265:=by rw [xS,b4]
 have ab:(cJ (jo l)).length=12:=by rw [xS,b6]
 have ac:=xT (iw l);have aj:=xT (jo l);have cR:=ad (fun u base g rest d m W hu o L M=>D5 u (iw l) base g 209 rest d m W hu (by omega) b1 o F L M);have cT:=ad (fun u base g rest d m W hu o L M=>D5 u (jo l) base g 209 rest d m W hu (by omega) b2 o F L M);have b7:=ad aa;have da:=ad ab;have ap:=ad ac;have dc:=ad aj;have av:=zJ (cJ (iw l));have a1:=zJ (cJ (jo l));have di:=ad (fun k (hk:k<l.length)=>U _ (bX hk));have dj:=ad (fun k=>Gz (cJ (iw l)) (cJ (jo l)) ac aj (l.take k) (fun t h=>U t (jV h)));have dr:Hid (sS (cJ (iw l)) (cJ (jo l)) l=((lW (cJ (iw l))++lW (cJ (jo l)))++jd (cJ (iw l)) (cJ (jo l)) l)++fW (cJ (iw l)) 256):=rfl;rw [aa]at av;rw [ab]at a1;generalize cJ (iw l)=A at *;generalize cJ (jo l)=B at *;clear R aa ab ac aj b4 b6 b1 b2 U;generalize ds:lW A=WA at *;generalize d0:lW B=WB at *;clear ds d0;have b9:=ad av;have d2:=ad a1;clear av a1;have fn:¬(32768:Int)<l.length:=by omega
 go_enter Tryz.func96, Tryz.ntmps96;go_wp2_with fail;refine b0.out.mono ?_;rintro e q ⟨u1,u2,rfl,bA,bB,a2⟩;have hg:(q.alloc (.cells #[.slice none 0 0,N 0,.pointer none,.pointer none] 209)).heap[q.heap.size]?=some (.cells #[.slice none 0 0,N 0,.pointer none,.pointer none] 209 (0,0)):=a9 _ _ _ rfl;have a3:Fr q (q.alloc (.cells #[.slice none 0 0,N 0,.pointer none,.pointer none] 209)):=(Fr.refl q).alloc _
 have bR:dd (q.alloc (.cells #[.slice none 0 0,N 0,.pointer none,.pointer none] 209)) (q.heap.size+1) q.heap.size 209 [.pointer none,.pointer none] (.slice none 0 0) []:=
  ⟨hg,Ow.nil,by omega,fun c hc=>by cases hc⟩
 have bT:=(bA.fr a3).see;have d5:=ad (fun W (h:Fr q W)=>(bB.fr h).see)
 have a5:Hid (∀ W d,br q.heap.size (.slice none 0 0) d (q.alloc (.cells #[.slice none 0 0,N 0,.pointer none,.pointer none] 209)) W->Fr q W):=fun W d h=>
  ah.below a3 h.1 a3.size (fun i e => by
   rcases e with e | e
   · exact fO e.symm
   · cases e)
 have ca:=ad (cR.out u1 _ _ _ _ [] _ bT bR (by simp) (by rw [eg];omega));clear bA bB bT hg bR b0;go_upto_region 7 with fail;generalize q.alloc (.cells #[.slice none 0 0,N 0,.pointer none,.pointer none] 209)=W2 at *;have fr:w.heap.size<=q.heap.size:=a2.size;generalize fv:q.heap.size=g at *;go_wp2_with fail;refine ca.out.mono ?_;rintro e W3 ⟨cv,f0,b3,rfl,aC,O,cb⟩;obtain⟨z,rfl⟩:=aC.ptr;have e2:W3.cell? ⟨g,2,none⟩=some (.pointer none):=by rw [aA O.1];rfl
 have f2:=al O.1 2;obtain⟨V,ba⟩:=F7 (x:=.pointer z) O;have cc:=aC.step O F ba;have bb:=cb.trans ba;have cf:=a5.out _ _ bb;have ch:g+1<=(W3.setCell ⟨g,2,none⟩ (.pointer z)).heap.size:=(aM.1 V.1).1;have cj:=ad (cT.out u2 _ _ _ _ _ _ (d5.out _ cf) V (by simp;have:=b9.out;omega) ch);clear ca aC O cb ba;go_upto_region 8 with fail;generalize W3.setCell ⟨g,2,none⟩ (.pointer z)=W4 at *;clear e2 f2;go_wp2_with fail;refine cj.out.mono ?_;rintro e W5 ⟨cv,dE,b5,rfl,bc,J,bd⟩;obtain⟨I,rfl⟩:=bc.ptr;have cm:=cc.step V F bd;have e3:W5.cell? ⟨g,3,none⟩=some (.pointer none):=by rw [aA J.1];rfl
 have f3:=al J.1 3;obtain⟨bf,X⟩:=F6 (x:=.pointer I) J;have cn:=cm.step J F X;have cp:=bc.step J F X;have cq:=(bb.trans bd).trans X;clear cj cc cm bc V J bd X bb cf ch;go_upto_region 9 with fail;generalize W5.setCell ⟨g,3,none⟩ (.pointer I)=W6 at *;clear e3 f3;obtain⟨D,Y⟩:∃ D,D=[]++WA++WB:=⟨_,rfl⟩;rw [<- Y]at bf;have ef:=ad Y;have f5:D.length<=3000:=by rw [Y];simp;have:=b9.out;have:=d2.out;omega
 clear Y;have eq:=ad (fun t ht d m W o hc K L M=>G4 t ht A B b3 b5 (.pointer z) (.pointer I) (g+1) g 209 d m W o hc K F (by have:=b7.out;omega) (by have:=da.out;omega) ap.out dc.out L M);go_wp2_with fail;go_loopw [38] (fun iv wr=>∃ (k:Nat) (d:Value),k<=l.length/\iv=N k/\dd wr (g+1) g 209 [.pointer z,.pointer I] d (D++jd A B (l.take k))/\kC wr b3 (.pointer z) A g d/\kC wr b5 (.pointer I) B g d/\br g (.slice none 0 0) d W2 wr) (fun iv _=>l.length - (intOf iv).toNat);case atStart=>exact⟨0,dE,an _,rfl,by rw [ld];simpa [jd] using bf,cn,cp,cq⟩
 case round=>
  clear bf cn cp cq;obtain⟨k,d,hk,rfl,o,hC,hD,Q⟩:=hrel;have es:=a5.out _ _ Q;have cs:g+1<=wr.heap.size:=(aM.1 o.1).1
  have bl : (D ++ jd A B (l.take k)).length ≤ 2000000 := by rw [aD]; have h1 := dj.out k; have h2 : (l.take k).length ≤ l.length := by rw [aG]; omega
                                                            omega
  by_cases bm:k<l.length
  · obtain⟨b,f9,fB,hv,c0,c1,c2⟩:=wg (HS.out wr (a2.trans es)) k bm;cases hv;have HX:Hid ((D++jd A B (l.take k))++lp A B l[k]=D++jd A B (l.take (k+1))):=(by show _=_;rw [gy bm,Gy,mG]);have e0:=di.out k bm;generalize l[k]=t at *;have G:Fr wr (wr.alloc (.cells #[.int .u8 (t.lit.toNat:Int),N t.len,N t.dist] 212)):=(Fr.refl wr).alloc _;have cu:=ad (eq.out t e0 d _ _ (lk o G) (hC.fr G) (hD.fr G) (by omega) (az cs G.size));have bs:=lk o G;have e1:=hC.fr G;have e4:=hD.fr G;have e5:=Q.frR G;have i1:(0:Int)<=k:=(by omega);have i2:(k:Int)<l.length:=(by omega);clear o hC hD Q bl;obtain⟨mk,c4⟩:∃ mk,mk=D++jd A B (l.take k):=⟨_,rfl⟩;rw [<- c4]at cu bs HX;clear c4;go_wp2_with fail;refine cu.out.mono ?_;rintro e W7 ⟨rfl,e6,c5,bu⟩;rw [HX.out]at c5;have e7:=e1.step bs F bu;have e8:=e4.step bs F bu;go_wp2_with fail;go_roundw;case rel=>exact⟨k+1,e6,by omega,by go_num,c5,e7,e8,e5.trans bu⟩
    case measure=>simp [intOf];omega
  · obtain rfl:k=l.length:=(by omega);have fS:¬(l.length:Int)<l.length:=(by omega);rw [dO]at o bl;have K:Fr wr wr.drew:=(Fr.refl wr).drew;have c6:=ad (yB A b3 256 (.pointer z) (g+1) g 209 [.pointer z,.pointer I] d _ wr.drew (hC.fr K) (lk o K) (by have:=b7.out;omega) ap.out (by omega) (by omega) (az cs K.size));have k2:wr.cell? ⟨g,2,none⟩=some (.pointer z):=(by rw [aA o.1];rfl);have HW:=ad o;clear hC hD o;go_upto_region 14 with fail;go_still_tail 7,(by kernel_rfl);change wpList _ _ _ _ _ wr.drew;generalize c7:wr.drew=WD at *;have gc:=ad c7;clear c7;go_wp2_with fail;refine c6.out.mono ?_;rintro e W8 ⟨⟨r8,rfl⟩,c9,cA,cB⟩;have cE:br g d c9 wr W8:=br.fr K cB;have cF:=a2.trans (a5.out _ _ (Q.trans cE));have HE:Hid ((D++jd A B l)++fW A 256=sS A B l):=(by show _=_;rw [dr.out,ef.out];simp);have cG:((D++jd A B l)++fW A 256).length<=7999992:=(by rw [aD];have:=wY A 256 ap.out;omega);have fa:=ad (Qk (g+1) g 209 [.pointer z,.pointer I] c9 _ W8 cA cG);clear c6 k2 cA cB cE Q cG bl;go_wp2_with fail;refine fa.out.mono ?_;rintro e W9 ⟨u,rfl,hU,fc⟩;go_wp2_with fail;go_ret2;exact⟨_,rfl,by rw [<- HE.out];exact hU.rebase cF.size,cF.trans fc⟩
def mJ(b:List UInt8):List UInt8:=ej (sS (cJ (iw (jL b))) (cJ (jo (jL b))) (jL b))
def oM(plain:Bool)(b:List UInt8):List UInt8:=if plain=false/\(mJ b).length<b.length then mr 1 b.length (mJ b)else mr 0 b.length b
theorem PQ(p:Bool)(b:List UInt8)(h:b.length<1000000000):(oM p b).length<=b.length+25:=by
 unfold oM;split;· rename_i d;have:=CY 1 b.length (mJ b) (by omega) (by omega);omega
 · exact CY 0 b.length b (by omega) (by omega)
theorem I8(v:Value)(l:List UInt8)(w:World)(m:ai w eB v l)(J:l.length<=32768) :
  Calls Tryz.prog 60 #[v] w fun e o=>∃ u,e=.returned (.tuple #[u,.bool (decide ((mJ l).length<l.length))])/\Ow o w.heap.size eB u (mJ l)/\Fr w o:=by
 obtain⟨K,L,rfl,_⟩:=m.shape;have D:=ad (Sc _ l w m (by omega));have d:=ad (fun u W (h:ai W jp u (jL l))=>QK u (jL l) W h (by have:=ND l 0;unfold jL;omega) (NC l 0));have z:Hid (mJ l=ej (sS (cJ (iw (jL l))) (cJ (jo (jL l))) (jL l))):=rfl;rw [<- z.out]at d;clear z;generalize mJ l=q at *;generalize jL l=t at *;go_enter Tryz.func60, Tryz.ntmps60;go_wp2_with fail;refine D.out.mono ?_;rintro e M ⟨O,rfl,F,A⟩;have G:=ad (d.out _ _ F.see);clear d;go_wp2_with fail;refine G.out.mono ?_;rintro e Q ⟨R,rfl,B,I⟩;obtain⟨U,V,rfl⟩:=B.shape';go_wp2_with fail;go_ret2;exact⟨_,by simp,B.rebase A.size,A.trans I⟩
theorem Nz(e:UInt8)(n:Nat)(d:List UInt8):mr e n d=fV (([e]++bI n++bI d.length)++d):=rfl
theorem S8(p:Bool)(v:Value)(l:List UInt8)(w:World)(B:ai w eB v l)(K:l.length<=32768)(ht:bK w) :
  Calls Tryz.prog 35 #[v,.bool p] w fun e w'=>∃ u,e=.returned (.tuple #[u,.int .i64 0])/\Ow w' w.heap.size eB u (oM p l)/\Fr w w':=by
 obtain⟨a0,bA,rfl,bB,bL,aC⟩:=B.shape;have HS:=ad (fun W (h:Fr w W)=>B.fr h);have o:=ad (I8 _ l w B K);have bR:¬(32768:Int)<l.length:=by omega
 have ak:=ad (fun n (h:n<18446744073709551616) W=>uX n h W);have bT:=jI l.length (by omega);have HT:=ad (fun W (h:Fr w W)=>ht.fr h);have ca:IntKind.u64.wrap (l.length:Int)=(l.length:Int):=eu _ (by omega);have bd:Hid (l.length<18446744073709551616):=by show _<_;omega
 have cb:=ad Nz;clear B ht aC;have D:Hid (oM p l=if p=false/\(mJ l).length<l.length then mr 1 l.length (mJ l)else mr 0 l.length l):=rfl;generalize oM p l=T at *;generalize mJ l=q at *;go_enter Tryz.func35, Tryz.ntmps35;go_upto_if 16 with fail;go_cut [6,7]from 8 to 23 (fun wv bv wx=>∃ (m:UInt8) (d:List UInt8),wv=Fk.u8 m/\ai wx eB bv d/\d.length<=32768/\Hid (T=mr m l.length d)/\Fr w wx)
 case first=>
  cases p with
  | true=>have z:Hid (T=mr 0 l.length l):=(by show _=_;rw [D.out,ae (by simp)]);go_wp2_with fail;go_meet;exact⟨0,l,rfl,HS.out _ (Fr.refl w),K,z,Fr.refl w⟩
  | false=>
   by_cases F:q.length<l.length;· have z:Hid (T=mr 1 l.length q):=(by show _=_;rw [D.out,ag ⟨rfl,F⟩]);rw [bt F]at o;go_wp2_with fail;refine o.out.mono ?_;rintro e w1 ⟨v1,rfl,L,G⟩;obtain⟨va,vc,rfl⟩:=L.shape';go_wp2_with fail;go_meet;exact⟨1,q,rfl,L.see,by omega,z,G⟩
   · have z:Hid (T=mr 0 l.length l):=(by show _=_;rw [D.out,ae (fun h=>F h.2)]);rw [aX F]at o;go_wp2_with fail;refine o.out.mono ?_;rintro e w1 ⟨v1,rfl,L,G⟩;go_wp2_with fail;go_meet;exact⟨0,l,rfl,HS.out _ G,K,z,G⟩
 case rest=>obtain⟨m,d,rfl,M,ch,HF,hf⟩:=hcut;obtain⟨ba,bc,rfl,_⟩:=M.shape;clear o D;have cl:=jI d.length (by omega);have cm:IntKind.u64.wrap (d.length:Int)=(d.length:Int):=eu _ (by omega);have bx:=ad (ak.out l.length bd.out);have b0:=ad (ak.out d.length (by omega));have av:=n9 eB wc #[Fk.u8 m] [m] 1 rfl (by simp [maxLen]) (am wc.heap.size);have b1:Fr wc (wc.alloc (.cells #[Fk.u8 m] 5)):=(Fr.refl wc).alloc _;have O:Hid (T=fV (([m]++bI l.length++bI d.length)++d)):=HF;generalize bI l.length=nb at *;generalize bI d.length=a2 at *;go_wp2_with fail;refine(bx.out _).mono ?_;rintro e w2 ⟨v2,rfl,Q,a3⟩;obtain⟨p2,z2,rfl⟩:=Q.shape';go_wp2_with fail;refine(b0.out _).mono ?_;rintro e w3 ⟨v3,rfl,R,U⟩;obtain⟨p3,z3,rfl⟩:=R.shape';have a4:=(av.fr (a3.trans U)).see;have a5:=ad (Q4 _ _ _ [m] nb a2 w3 a4 (Q.fr U).see R.see (by simp;omega));have b3:=b1.trans (a3.trans U);clear av a4 Q R;go_wp2_with fail;refine a5.out.mono ?_;rintro e w4 ⟨v4,rfl,I,b4⟩;obtain⟨A,V⟩:∃ A,A=[m]++nb++a2:=⟨_,rfl⟩;rw [<- V]at I O;obtain⟨p4,z4,rfl⟩:=I.shape';have c3:A.length<=21:=(by rw [V];simp;omega);clear V a5;have a6:=b3.trans b4;have X:=ad (Q6 _ _ A d w4 I.see (M.fr a6) (by omega));obtain⟨J,Y⟩:∃ J,J=A++d:=⟨_,rfl⟩;rw [<- Y]at X O;have c4:J.length<=32800:=(by rw [Y,aD];omega);clear I M Y;go_wp2_with fail;refine X.out.mono ?_;rintro e w5 ⟨v5,rfl,Z,b6⟩;obtain⟨p5,z5,rfl⟩:=Z.shape';have aa:=hf.trans (a6.trans b6);have HP:=ad (E8 _ J w5 Z.see (by omega) (HT.out _ aa));rw [<- O.out]at HP;clear X Z;go_wp2_with fail;refine HP.out.mono ?_;rintro e w6 ⟨v6,rfl,b7,b8⟩;go_wp2_with fail;go_ret2;exact⟨_,rfl,b7.rebase aa.size,aa.trans b8⟩
structure ni (l:List aF):Prop where
 len:l.length<=60
 wt:bj cg l<=4000
theorem zG{α:Type}(f:α->Nat):∀ (l:List α) (x:α),x∈l->f x<=bj f l
 | [],x,h=>by cases h
 | y::l,x,h=>by
  simp only [bj,gT,lS]
  rcases jW.1 h with rfl | h
  · omega
  · have:=zG f l x h
    unfold bj at this
    omega
theorem ni.each{l:List aF}(h:ni l):∀ r∈l,r.source.length+r.text.length<=3984:=fun r d=>by
 have e:=zG cg l r d
 have m:=h.wt
 unfold cg at e m
 omega
theorem ni.ok{l:List aF}(h:ni l):fZ l=true:=by
 unfold fZ;rw [bt (by have:=h.len;omega),bt (by have:=h.wt;omega)];simp only [Bool.and_true,oW];rw [og];intro r d;have:=h.each r d;unfold dD;rw [aX (by omega),aX (by omega)];rfl
theorem Fz{α:Type}(f g:α->Nat)(l:List α)(c:Nat)(h:∀ x∈l,f x=c+g x):bj f l=l.length*c+bj g l:=by
 induction l with
 | nil=>simp [bj]
 | cons x l d=>have e:=d (fun y m=>h y (by simp [m]));have o:=h x (by simp);simp only [bj,gT,lS,cd]at *;rw [e,o,bU];omega
theorem Fy{α:Type}(f:α->Nat){g l:List α}(h:g.Sublist l):bj f g<=bj f l:=by
 induction h with
 | slnil=>exact am _
 | cons a _ d=>simp only [bj,gT,lS]at *;omega
 | cons_cons a _ d=>simp only [bj,gT,lS]at *;omega
def Tg(p:Bool)(l:List aF)(d:List Nat)(k:Nat):List UInt8:=oM p (gL false ((l.take (d.take (k+1)).sum).drop (d.take k).sum))
def jK(d:Nat->List UInt8)(k:Nat):List (List UInt8):=(List.range k).map d
theorem N2(d:Nat->List UInt8)(k:Nat):jK d (k+1)=jK d k++[d k]:=by unfold jK;rw [lf,gp];rfl
theorem Nn{α:Type}(S:Nat)(f:α->Nat)(l:List α):(jn S f l).length<=l.length:=by
 have z:=CP S f l;have d:∀ x∈jn S f l,1<=x:=by
  cases l with
  | nil=>intro x e;cases e
  | cons r l=>exact Nm S f l 1 (f r) (am _)
 have key:∀ m:List Nat,(∀ x∈m,1<=x)->m.length<=m.sum:=by
  intro m
  induction m with
  | nil=>intro _;simp
  | cons x m o=>intro h;have A:=o (fun y q=>h y (by simp [q]));have B:=h x (by simp);simp only [cd,lS];omega
 have:=key _ d;omega
theorem N3(d:Nat->List UInt8)(b:Nat)(h:∀ k,(d k).length<=b)(k:Nat):(jK d k).flatten.length<=k*b:=by
 unfold jK;rw [qW];refine az (zH _ b _ fun i _=>h i) ?_;rw [mD];exact am _
end Go.Proofs.YtfpijnhhdfoohaaGreatDoor
