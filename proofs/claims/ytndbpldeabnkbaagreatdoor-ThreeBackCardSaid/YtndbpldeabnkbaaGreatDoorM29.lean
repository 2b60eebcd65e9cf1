/- Lemmas for ThreeTurned. -/
import Derived.Test.YtndbpldeabnkbaaGreatDoorM27
import Derived.Test.YtndbpldeabnkbaaGreatDoorM20
set_option linter.all false
set_option maxHeartbeats 8000000
set_option maxRecDepth 100000
namespace Go.Proofs.YtndbpldeabnkbaaGreatDoor
open Go.RowKit Go.Fk
def mZ{w w':World}{base g:Nat}{T:TypeId}{rest:List Value}{d:Value}{l:Z0}(h:cM w base g T rest d l)(e:Fr w w'):cM w' base g T rest d l:=⟨e.heap h.1,h.2.1.fr e,h.2.2⟩
def Ii(v:Value)(d:List Nat)(base g:Nat)(T:TypeId)(rest:List Value)(D:Value)(l:Z0)(w:World)(hs:ah w eV v d)(J:d.length<=300)(a2:∀x∈d,x<4294967296)(K:cM w base g T rest D l)
  (hT:T≠5/\T≠64/\T≠3) (hl:l.length<=900000000) (hsz:base<=w.heap.size) :
  Calls Tryz.prog 151 #[.pointer (some ⟨g,0,none⟩),v] w λe w'=>∃cv L b,e=.returned cv/\mf w' b cv (co d) g L/\cM w' base g T rest L (l++kg (co d))/\bw g D L w w':=by
 have bf:=ad (Xp v d w hs J a2);have M:=rO d;have O:=vq d;have b1:=K.2.2.1;have Z:=ad (λA W b2 hO bm F m hb=>Xt A (co d) b2 base g T hT.1 rest D l W bm hO F (by rw[M];exact J) O m hl hb);have aa:=ad (λA W Q m=>Xs A (co d) g W Q (by rw[M];exact J) O m);have HN:=ad (λA W Q m=>J9 A (co d) W Q (by rw[M];exact J) O m);have a5:=ad (λA W Q m=>X4 A (co d) W Q (by rw[M];exact J) O m);have a6:kg (co d)=if bX (co d)then dr (co d)else []:=rfl;have a7:=ad a6;clear hs a6 a2;generalize co d=a at *;have ab:=ad (λk o=>(K.2.1.lt k o).2);clear M O;go_in;go_wp2_with fail;refine bf.out.mono ?_;rintro e X ⟨A,rfl,z,Y⟩;obtain⟨la,lc,rfl⟩:=z.shape';have R:=mZ K Y;have F:(Value.slice la a.length lc).ownBlock=none\/(Value.slice la a.length lc).ownBlock≠D.ownBlock:=by
  cases o:(Value.slice la a.length lc).ownBlock with
  | none=>exact .inl rfl
  | some k=>exact .inr λe=>by have G:=(z.lt k o).1;have h2:=ab.out k e.symm;omega
 cases m:bX a with
 | true=>
  have U:=ad (Z.out _ X _ z R F m (ay hsz Y.size));have ba := ad (fun W L (bs : bw g D L X W) => (z.chg bs.1 fun k o e => by
    rcases e with e | e;·exact z.ne_cells R.1 hT.1 (by rw[o, e])
    · rcases F with G | G;·rw[G] at o; cases o
      · exact G (o.trans e.symm)).see)
  clear K R F z Z aa a5 ab;go_wp2_with fail;refine U.out.mono ?_;rintro e I ⟨rfl,bb,ak,bc⟩;have ap:=ad (HN.out _ I (ba.out I bb bc) m);clear U ba;go_wp2_with fail;refine ap.out.mono ?_;rintro e w3 ⟨g2,c,rfl,hH,V⟩;go_wp2;go_ret;refine⟨_,bb,I.heap.size,rfl,.inr ⟨m,g2,c,rfl,hH,?_,?_⟩,?_,?_⟩;·have G:=hH.up;have h2:=(aR.1 ak.1).1;omega
  ·cases o:(c 0).ownBlock with
   | none=>exact .inl rfl
   | some k=>exact .inr λe=>by have G:=(hH.own0.lt k o).1;have h2:=(ak.2.1.lt k e.symm).2;omega
  ·rw[a7.out,m];exact mZ ak V
  ·exact bw.fr Y (bc.frR V)
 | false=>have U:=ad (aa.out _ X z.see m);have bd:=ad (λW (h:Fr X W)=>(z.fr h).see);have b0:=ad R;clear K R F z Z aa HN ab;go_wp2_with fail;refine U.out.mono ?_;rintro e I ⟨rfl,a0⟩;have ap:=ad (a5.out _ I (bd.out I a0) m);clear U bd;go_wp2_with fail;refine ap.out.mono ?_;rintro e w3 ⟨rfl,V⟩;go_wp2;go_ret;refine⟨_,D,0,rfl,.inl ⟨m,rfl⟩,?_,(bw.refl g D w).frR ((Y.trans a0).trans V)⟩;have e:kg a=[]:=(by rw[a7.out,m];rfl);rw[e,dg];exact mZ (mZ b0.out a0) V
def A6(a:Z0)(s:Nat)(h:∀c∈a,c.toNat<=15):(cD a s).length<=15:=by
 unfold cD;split;·exact IK a s h
 ·simp
def Lp(A B:Z0)(t:aU)(h:t.len=0):fR A B t=cD A (aX t).sym:=by unfold fR;rw[af h,dg]
def Lo(A B:Z0)(t:aU)(h:t.len≠0):fR A B t=cD A (aX t).sym++(bP (aX t).len ((aX t).sym-257)++(cD B (aX t).dist++bP (aX t).far (aX t).dist)):=by unfold fR;rw[ae h]
def OW(t:aU)(h:ex t=true)(d:t.len≠0):(aX t).len<2^((aX t).sym-257)/\(aX t).far<2^(aX t).dist:=by
 obtain⟨_,m,o,e,z⟩:=qT t h d;unfold aX;rw[ae d];refine⟨?_,xr _ e⟩;show ix (t.len-2)<2^(257+fx (t.len-2)-257);rw[show 257+fx (t.len-2)-257=fx (t.len-2) by omega];exact xr _ ω
def Ln(t:aU)(z:ex t=true)(A B:Z0)(bA bB:Nat)(G I:Value)(base g:Nat)(T:TypeId)(h:Value)(l:Z0)(w:World)(J:cM w base g T [G,I] h l)(h1:mf w bA G A g h)(h2:mf w bB I B g h)
  (hT:T≠5/\T≠64/\T≠3) (hA:A.length<=300) (hB:B.length<=300) (hA15:∀c∈A,c.toNat<=15) (hB15:∀c∈B,c.toNat<=15) (hl:l.length<=800000000) (hsz:base<=w.heap.size) :
  Calls Tryz.prog 152 #[.pointer (some ⟨g,0,none⟩),nM t] w λe w'=>e=.returned (.tuple #[])/\∃ak,cM w' base g T [G,I] ak (l++fR A B t)/\bw g h ak w w':=by
 have ca:Hid (∀W,Calls Tryz.prog 191 #[nM t] W λe w'=>e=.returned (.tuple #[.agg #[N (aX t).sym,N (aX t).len,N (aX t).dist,N (aX t).far],.int .i64 0])/\Fr W w'):=λW=>Jp t W z;have cb:=ad (λs W h m (hs:s<=1000000) (z:m.length<=900000000) hc J U=>BH A bA s G base g T [G,I] h m W hc J hA hA15 hs z U);have cc:=ad (λs W h m (hs:s<=1000000) (z:m.length<=900000000) hc J U=>BH B bB s I base g T [G,I] h m W hc J hB hB15 hs z U);have bn:=ad (λx n hn hx ak m W J z U=>yD x n hn hx base g T [G,I] ak m W J z U);have cj:=ad (λs=>A6 A s hA15);have ck:=ad (λs=>A6 B s hB15);have cl:=xG t z;have cm:=ad (OW t z);have cn:=ad (Lp A B t);have cp:=ad (Lo A B t);have cq:Fr w (w.alloc (.cells #[.int .u8 (t.lit.toNat:Int),N t.len,N t.dist] 238)):=(Fr.refl w).alloc _;obtain⟨d5,d6,dE,dT,bs,bu⟩:=cl;go_in;go_wp2_with fail;refine(ca.out _).mono ?_;rintro e K ⟨rfl,cs⟩;have bx:=cq.trans cs;have ct:Fr K (K.alloc (.cells #[N (aX t).sym,N (aX t).len,N (aX t).dist,N (aX t).far] 286)):=(Fr.refl K).alloc _;have a6:(K.alloc (.cells #[N (aX t).sym,N (aX t).len,N (aX t).dist,N (aX t).far] 286)).heap[K.heap.size]?=some (.cells #[N (aX t).sym,N (aX t).len,N (aX t).dist,N (aX t).far] 286 (0,0)):=aB _ _ _ rfl;have V:=bx.trans ct;have a7:K.heap.size≠g:=by have:=(aR.1 (bx.heap J.1)).1;omega
 generalize ec:(aX t).sym=o at *;generalize ef:(aX t).dist=O at *;generalize el:(aX t).len=le at *;generalize eq:(aX t).far=X at *;go_upto_region 2 with fail;generalize K.alloc (.cells #[N o,N le,N O,N X] 286)=D at *;generalize K.heap.size=pb at *;have Y:=mZ J V;have b0:=h1.fr V;have cu:=h2.fr V;have cv:bw g h h w D:=(bw.refl g h w).frR V;have b1:=ay hsz V.size;have k2:D.cell? ⟨g,2,none⟩=some G:=by rw[aK Y.1];rfl
 have p0:=ag a6 0 rfl;have ap:Fr D D.drew:=(Fr.refl D).drew;have c0:=ad (cb.out o D.drew h l ω ω (b0.fr ap) (mZ Y ap) (ay b1 ap.size));go_still_tail 9,(by kernel_rfl);change wpList _ _ _ _ _ D.drew;generalize Q:D.drew=WD at *;have ba:=ad Q;go_wp2_with fail;refine c0.out.mono ?_;rintro e L ⟨⟨r4,rfl⟩,Z,aa,c3⟩;have ab:h.ownBlock≠some pb:=Y.2.1.ne_cells a6 δ;have d:bw g h Z D L:=bw.fr ap c3;have av:=d.heap a6 a7 ab;have ev:=b0.step Y hT d;have c4:=cu.step Y hT d;have b2:=cv.trans d;have b3:=ay b1 d.1.size;have c5:(l++cD A o).length<=l.length+15:=by rw[am];have:=cj.out o;omega
 have p0:=ag av 0 rfl;have p1:=ag av 1 rfl;by_cases R:t.len=0;·have c6:(o:Int)<256:=(by have:=bs.2 R;omega);have HE:Hid (l++fR A B t=l++cD A o):=ad (by rw[cn.out R]);go_wp2_with fail;refine bF (results_none rfl _ _ _) rfl ?_;exact⟨rfl,Z,by rw[HE.out];exact aa,b2⟩
 ·have c6:¬(o:Int)<256:=(by have:=bu R;omega);have e0:257<=o:=bu R;obtain⟨c7,c8⟩:=cm.out R;obtain⟨m4,b4⟩:∃m4,m4=l++cD A o:=⟨_,rfl⟩;rw[<- b4]at aa c5;have cA:=ad b4;have cB:=ad c8;have bc:Fr L L.drew:=(Fr.refl L).drew;have cE:=ad (bn.out le (o-257) ω c7 Z m4 L.drew (mZ aa bc) ω (ay b3 bc.size));have e1:(o:Int)-257=((o-257:Nat):Int):=ω;have e2:=dF (le:Int) ω;have e3:=ad bs;go_upto_region 4 with fail;go_still_tail 9,(by kernel_rfl);change wpList _ _ _ _ _ L.drew;generalize Q:L.drew=WD at *;have ba:=ad Q;go_wp2_with fail;refine cE.out.mono ?_;rintro e F ⟨rfl,a0,a1,cF⟩;have ab:Z.ownBlock≠some pb:=aa.2.1.ne_cells av δ;have d:bw g Z a0 L F:=bw.fr bc cF;have bd:=d.heap av a7 ab;have cG:=c4.step aa hT d;have cL:=b2.trans d;have b5:=ay b3 d.1.size;have cN:(m4++bP le (o-257)).length<=l.length+23:=(by rw[am,fX];omega);obtain⟨m5,b6⟩:∃m5,m5=m4++bP le (o-257):=⟨_,rfl⟩;rw[<- b6]at a1 cN;have cR:=ad b6;have k3:F.cell? ⟨g,3,none⟩=some I:=(by rw[aK a1.1];rfl);have p2:=ag bd 2 rfl;have a2:Fr F F.drew:=(Fr.refl F).drew;have cT:=ad (cc.out O F.drew a0 m5 ω ω (cG.fr a2) (mZ a1 a2) (ay b5 a2.size));go_upto_region 5 with fail;go_still_tail 9,(by kernel_rfl);change wpList _ _ _ _ _ F.drew;generalize Q:F.drew=e4 at *;have ba:=ad Q;go_wp2_with fail;refine cT.out.mono ?_;rintro e M ⟨⟨r6,rfl⟩,bf,b7,da⟩;have ab:a0.ownBlock≠some pb:=a1.2.1.ne_cells bd δ;have d:bw g a0 bf F M:=bw.fr a2 da;have b8:=d.heap bd a7 ab;have dc:=cL.trans d;have dj:=ay b5 d.1.size;have ds:(m5++cD B O).length<=l.length+38:=(by rw[am];have:=ck.out O;omega);obtain⟨m6,b9⟩:∃m6,m6=m5++cD B O:=⟨_,rfl⟩;rw[<- b9]at b7 ds;have dv:=ad b9;have p2:=ag b8 2 rfl;have p3:=ag b8 3 rfl;have bk:Fr M M.drew:=(Fr.refl M).drew;have d0:=ad (bn.out X O ω cB.out bf m6 M.drew (mZ b7 bk) ω (ay dj bk.size));have e6:=dF (X:Int) ω;go_upto_region 6 with fail;go_still_tail 8,(by kernel_rfl);change wpList _ _ _ _ _ M.drew;generalize Q:M.drew=e7 at *;have ba:=ad Q;go_wp2_with fail;refine d0.out.mono ?_;rintro e W7 ⟨rfl,bL,d2,d3⟩;have d:bw g bf bL M W7:=bw.fr bk d3;have d4:=dc.trans d;have HE:Hid (l++fR A B t=m6++bP X O):=(by show _=_;rw[cp.out R,dv.out,cR.out,cA.out];simp);go_wp2;go_end0;exact⟨rfl,bL,by rw[HE.out];exact d2,d4⟩
def Kt{w:World}{base g:Nat}{T:TypeId}{p q d x:Value}{l:Z0}(h:cM w base g T [p,q] d l):cM (w.setCell ⟨g,2,none⟩ x) base g T [x,q] d l/\bw g d d w (w.setCell ⟨g,2,none⟩ x):=
 ⟨⟨by have:=aJ h.1 2 x;simpa using this,eu h.2.1 h.2.2.1,h.2.2⟩,(a9 w ⟨g,2,none⟩ x).mono (λk _ e=>.inl e),λ_ e=>.inl e⟩
def Ks{w:World}{base g:Nat}{T:TypeId}{p q d x:Value}{l:Z0}(h:cM w base g T [p,q] d l):cM (w.setCell ⟨g,3,none⟩ x) base g T [p,x] d l/\bw g d d w (w.setCell ⟨g,3,none⟩ x):=
 ⟨⟨by have:=aJ h.1 3 x;simpa using this,eu h.2.1 h.2.2.1,h.2.2⟩,(a9 w ⟨g,3,none⟩ x).mono (λk _ e=>.inl e),λ_ e=>.inl e⟩
def mf.ptr{w:World}{b g:Nat}{d e:Value}{a:Z0}(h:mf w b d a g e):∃p,d=.pointer p:=by
 rcases h with⟨_,h⟩ | ⟨_,m,c,h,_⟩;·exact⟨_,h⟩
 ·exact⟨_,h⟩
def Wi(v:Value)(l:List aU)(w:World)(R:ah w kS v l)(hn:l.length<=32768)(U:∀t∈l,ex t=true):Calls Tryz.prog 107 #[v] w λe w'=>∃u,e=.returned (.tuple #[u,.int .i64 0])/\Ow w' w.heap.size eB u (cx (g9 (co (gx l)) (co (iB l)) l))/\Fr w w':=by
 have HS:=ad (λW (h:Fr w W)=>R.fr h);have bu:=ad (XM v l w R ω U);obtain⟨a0,fm,rfl,fn,cL,fr⟩:=R.shape;unfold maxLen at cL;have F:235≠5/\235≠64/\235≠3:=δ
 have bx:∀x∈gx l,x<4294967296:=λx Z=>by obtain⟨k,_,rfl⟩:=ee.1 Z;have:=wY l k;split <;> omega
 have b0:∀x∈iB l,x<4294967296:=λx Z=>by obtain⟨k,_,rfl⟩:=ee.1 Z;have:=Bv l k;omega
 have b1:(gx l).length=265:=by simp[gx]
 have b2:(iB l).length=12:=by simp[iB]
 have aa:(co (gx l)).length=265:=by rw[rO,b1]
 have ab:(co (iB l)).length=12:=by rw[rO,b2]
 have ac:=vq (gx l);have aj:=vq (iB l);have cN:=ad (λu base g rest d m W hu o L M=>Ii u (gx l) base g 235 rest d m W hu ω bx o F L M);have cR:=ad (λu base g rest d m W hu o L M=>Ii u (iB l) base g 235 rest d m W hu ω b0 o F L M);have b4:=ad aa;have cT:=ad ab;have ap:=ad ac;have da:=ad aj;have av:=CN (co (gx l));have a1:=CN (co (iB l));have dc:=ad (λk (hk:k<l.length)=>U _ (bJ hk));have di:=ad (λk=>Lm (co (gx l)) (co (iB l)) ac aj (l.take k) (λt h=>U t (fZ h)));have dj:Hid (g9 (co (gx l)) (co (iB l)) l=((kg (co (gx l))++kg (co (iB l)))++cX (co (gx l)) (co (iB l)) l)++cD (co (gx l)) 256):=rfl;rw[aa]at av;rw[ab]at a1;generalize co (iB l)=B,co (gx l)=A at *;clear R aa ab ac aj b1 b2 bx b0 U;generalize ds:kg A=WA at *;generalize d0:kg B=WB at *;clear ds d0;have b7:=ad av;have d2:=ad a1;clear av a1;have fs:¬(32768:Int)<l.length:=ω
 go_in;go_wp2_with fail;refine bu.out.mono ?_;rintro e z ⟨u1,u2,rfl,b8,b9,a2⟩;have hg:(z.alloc (.cells #[.slice none 0 0,N 0,.pointer none,.pointer none] 235)).heap[z.heap.size]?=some (.cells #[.slice none 0 0,N 0,.pointer none,.pointer none] 235 (0,0)):=aB _ _ _ rfl;have a3:Fr z (z.alloc (.cells #[.slice none 0 0,N 0,.pointer none,.pointer none] 235)):=(Fr.refl z).alloc _
 have bB:cM (z.alloc (.cells #[.slice none 0 0,N 0,.pointer none,.pointer none] 235)) (z.heap.size+1) z.heap.size 235 [.pointer none,.pointer none] (.slice none 0 0) []:=
  ⟨hg,Ow.nil,ω,λc hc=>by cases hc⟩
 have bL:=(b8.fr a3).see;have d5:=ad (λW (h:Fr z W)=>(b9.fr h).see)
 have a5:Hid (∀W d,bw z.heap.size (.slice none 0 0) d (z.alloc (.cells #[.slice none 0 0,N 0,.pointer none,.pointer none] 235)) W->Fr z W):=λW d h=>
  ai.below a3 h.1 a3.size (fun i e => by
    rcases e with e | e
    · exact iT e.symm
    · cases e)
 have bR:=ad (cN.out u1 _ _ _ _ [] _ bL bB σ (by rw[eW];omega));clear b8 b9 bL hg bB bu;go_upto_region 7 with fail;generalize z.alloc (.cells #[.slice none 0 0,N 0,.pointer none,.pointer none] 235)=W2 at *;have fv:w.heap.size<=z.heap.size:=a2.size;generalize f0:z.heap.size=g at *;go_wp2_with fail;refine bR.out.mono ?_;rintro e W3 ⟨cv,f1,b3,rfl,aC,O,bT⟩;obtain⟨p3,rfl⟩:=aC.ptr;have e2:W3.cell? ⟨g,2,none⟩=some (.pointer none):=by rw[aK O.1];rfl
 have f2:=a8 O.1 2;obtain⟨V,ba⟩:=Kt (x:=.pointer p3) O;have ca:=aC.step O F ba;have bb:=bT.trans ba;have cb:=a5.out _ _ bb;have cc:g+1<=(W3.setCell ⟨g,2,none⟩ (.pointer p3)).heap.size:=(aR.1 V.1).1;have cf:=ad (cR.out u2 _ _ _ _ _ _ (d5.out _ cb) V (by simp;have:=b7.out;omega) cc);clear bR aC O bT ba;go_upto_region 8 with fail;generalize W3.setCell ⟨g,2,none⟩ (.pointer p3)=W4 at *;clear e2 f2;go_wp2_with fail;refine cf.out.mono ?_;rintro e W5 ⟨cv,ef,b5,rfl,bc,J,bd⟩;obtain⟨I,rfl⟩:=bc.ptr;have ck:=ca.step V F bd;have e3:W5.cell? ⟨g,3,none⟩=some (.pointer none):=by rw[aK J.1];rfl
 have f3:=a8 J.1 3;obtain⟨bf,X⟩:=Ks (x:=.pointer I) J;have cl:=ck.step J F X;have cm:=bc.step J F X;have cn:=(bb.trans bd).trans X;clear cf ca ck bc V J bd X bb cb cc;go_upto_region 9 with fail;generalize W5.setCell ⟨g,3,none⟩ (.pointer I)=W6 at *;clear e3 f3;obtain⟨D,Y⟩:∃D,D=[]++WA++WB:=⟨_,rfl⟩;rw[<- Y]at bf;have er:=ad Y;have f6:D.length<=3000:=by rw[Y];simp;have:=b7.out;have:=d2.out;omega
 clear Y;have es:=ad (λt ht d m W o hc K L M=>Ln t ht A B b3 b5 (.pointer p3) (.pointer I) (g+1) g 235 d m W o hc K F (by have:=b4.out;omega) (by have:=cT.out;omega) ap.out da.out L M);go_wp2;go_loopw [38] (λiv wr=>∃(k:Nat) (d:Value),k<=l.length/\iv=N k/\cM wr (g+1) g 235 [.pointer p3,.pointer I] d (D++cX A B (l.take k))/\mf wr b3 (.pointer p3) A g d/\mf wr b5 (.pointer I) B g d/\bw g (.slice none 0 0) d W2 wr) (λiv _=>l.length-(intOf iv).toNat);case atStart=>exact⟨0,ef,ar _,rfl,by rw[lj];simpa [cX] using bf,cl,cm,cn⟩
 case round=>
  clear bf cl cm cn;obtain⟨k,d,hk,rfl,o,hC,hD,Q⟩:=hrel;have e0:=a5.out _ _ Q;have cp:g+1<=wr.heap.size:=(aR.1 o.1).1
  have bl : (D ++ cX A B (l.take k)).length ≤ 2000000 := by rw[am]; have h1 := di.out k; have h2 : (l.take k).length ≤ l.length := by rw[aA]; omega
                                                            omega
  by_cases bm:k<l.length
  ·obtain⟨b,fB,fC,hv,c0,c1,c2⟩:=zN (HS.out wr (a2.trans e0)) k bm;cases hv;have HX:Hid ((D++cX A B (l.take k))++fR A B l[k]=D++cX A B (l.take (k+1))):=ad (by rw[f8 bm,Ll,bG]);have e4:=dc.out k bm;generalize l[k]=t at *;have G:Fr wr (wr.alloc (.cells #[.int .u8 (t.lit.toNat:Int),N t.len,N t.dist] 238)):=(Fr.refl wr).alloc _;have cs:=ad (es.out t e4 d _ _ (mZ o G) (hC.fr G) (hD.fr G) ω (ay cp G.size));have bn:=mZ o G;have e5:=hC.fr G;have e6:=hD.fr G;have e7:=Q.frR G;have i1:(0:Int)<=k:=ω;have i2:(k:Int)<l.length:=ω;clear o hC hD Q bl;obtain⟨mk,cu⟩:∃mk,mk=D++cX A B (l.take k):=⟨_,rfl⟩;rw[<- cu]at cs bn HX;clear cu;go_wp2_with fail;refine cs.out.mono ?_;rintro e W7 ⟨rfl,e8,c3,bs⟩;rw[HX.out]at c3;have e9:=e5.step bn F bs;have eL:=e6.step bn F bs;go_wp2;go_roundw;case rel=>exact⟨k+1,e8,ω,γ,c3,e9,eL,e7.trans bs⟩
   case measure=>exact μ
  ·obtain rfl:k=l.length:=ω;have ga:¬(l.length:Int)<l.length:=ω;rw[dY]at o bl;have K:Fr wr wr.drew:=(Fr.refl wr).drew;have c4:=ad (BH A b3 256 (.pointer p3) (g+1) g 235 [.pointer p3,.pointer I] d _ wr.drew (hC.fr K) (mZ o K) (by have:=b4.out;omega) ap.out ω ω (ay cp K.size));have k2:wr.cell? ⟨g,2,none⟩=some (.pointer p3):=(by rw[aK o.1];rfl);have HW:=ad o;clear hC hD o;go_upto_region 14 with fail;go_still_tail 7,(by kernel_rfl);change wpList _ _ _ _ _ wr.drew;generalize c5:wr.drew=WD at *;have ge:=ad c5;clear c5;go_wp2_with fail;refine c4.out.mono ?_;rintro e W8 ⟨⟨r8,rfl⟩,c7,c8,cA⟩;have cB:bw g d c7 wr W8:=bw.fr K cA;have cE:=a2.trans (a5.out _ _ (Q.trans cB));have HE:Hid ((D++cX A B l)++cD A 256=g9 A B l):=(by show _=_;rw[dj.out,er.out];simp);have cF:((D++cX A B l)++cD A 256).length<=7999992:=(by rw[am];have:=A6 A 256 ap.out;omega);have fc:=ad (IR (g+1) g 235 [.pointer p3,.pointer I] c7 _ W8 c8 cF);clear c4 k2 c8 cA cB Q cF bl;go_wp2_with fail;refine fc.out.mono ?_;rintro e W9 ⟨u,rfl,hU,fh⟩;go_wp2;go_ret2;exact⟨_,rfl,by rw[<- HE.out];exact hU.rebase cE.size,cE.trans fh⟩
def nj(b:Z0):Z0:=cx (g9 (co (gx (eh b))) (co (iB (eh b))) (eh b))
def mN(plain:Bool)(b:Z0):Z0:=if plain=false/\(nj b).length<b.length then dS 1 b.length (nj b)else dS 0 b.length b
def Vj(p:Bool)(b:Z0)(h:b.length<1000000000):(mN p b).length<=b.length+25:=by
 unfold mN;split;·rename_i d;have:=GO 1 b.length (nj b) ω ω;omega
 ·exact GO 0 b.length b ω ω
def MY(v:Value)(l:Z0)(w:World)(m:ah w eB v l)(J:l.length<=32768):Calls Tryz.prog 64 #[v] w λe w'=>∃u,e=.returned (.tuple #[u,.bool (decide ((nj l).length<l.length))])/\Ow w' w.heap.size eB u (nj l)/\Fr w w':=by
 obtain⟨K,L,rfl,_⟩:=m.shape;have D:=ad (Xr _ l w m ω);have d:=ad (λu W (h:ah W kS u (eh l))=>Wi u (eh l) W h (by have:=Bu l 0;unfold eh;omega) (yf l 0));have o:Hid (nj l=cx (g9 (co (gx (eh l))) (co (iB (eh l))) (eh l))):=rfl;rw[<- o.out]at d;clear o;generalize eh l=t,nj l=q at *;go_in;go_wp2_with fail;refine D.out.mono ?_;rintro e M ⟨O,rfl,F,z⟩;have G:=ad (d.out _ _ F.see);clear d;go_wp2_with fail;refine G.out.mono ?_;rintro e Q ⟨R,rfl,A,I⟩;obtain⟨U,V,rfl⟩:=A.shape';go_wp2;go_ret2;exact⟨_,σ,A.rebase z.size,z.trans I⟩
theorem S6(e:UInt8)(n:Nat)(d:Z0):dS e n d=au (([e]++ao n++ao d.length)++d):=rfl
def XS(p:Bool)(v:Value)(l:Z0)(w:World)(D:ah w eB v l)(L:l.length<=32768)(ht:cP w):Calls Tryz.prog 34 #[v,.bool p] w λe w'=>∃u,e=.returned (.tuple #[u,.int .i64 0])/\Ow w' w.heap.size eB u (mN p l)/\Fr w w':=by
 obtain⟨a0,b8,rfl,b9,bA,a7⟩:=D.shape;have HS:=ad (λW (h:Fr w W)=>D.fr h);have o:=ad (MY _ l w D L);have bB:¬(32768:Int)<l.length:=ω
 have ak:=ad (λn (h:n<18446744073709551616) W=>rf n h W);have bL:=cJ l.length ω;have HT:=ad (λW (h:Fr w W)=>ht.fr h);have bR:IntKind.u64.wrap (l.length:Int)=(l.length:Int):=dF _ ω;have bb:Hid (l.length<18446744073709551616):=by show _<_;omega
 have bT:=ad S6;clear D ht a7;have F:Hid (mN p l=if p=false/\(nj l).length<l.length then dS 1 l.length (nj l)else dS 0 l.length l):=rfl;generalize nj l=q,mN p l=T at *;go_in;go_upto_if 16 with fail;go_cut [6,7]from 8 to 23 (λwv bv wx=>∃(m:UInt8) (d:Z0),wv=Fk.u8 m/\ah wx eB bv d/\d.length<=32768/\Hid (T=dS m l.length d)/\Fr w wx)
 case first=>
  cases p with
  | true=>have z:Hid (T=dS 0 l.length l):=ad (by rw[F.out,ae σ]);go_wp2;go_meet;exact⟨0,l,rfl,HS.out _ (Fr.refl w),L,z,Fr.refl w⟩
  | false=>
   by_cases G:q.length<l.length;·have z:Hid (T=dS 1 l.length q):=ad (by rw[F.out,af ⟨rfl,G⟩]);rw[bp G]at o;go_wp2_with fail;refine o.out.mono ?_;rintro e w1 ⟨v1,rfl,M,I⟩;obtain⟨va,vc,rfl⟩:=M.shape';go_wp2;go_meet;exact⟨1,q,rfl,M.see,ω,z,I⟩
   ·have z:Hid (T=dS 0 l.length l):=ad (by rw[F.out,ae (λh=>G h.2)]);rw[br G]at o;go_wp2_with fail;refine o.out.mono ?_;rintro e w1 ⟨v1,rfl,M,I⟩;go_wp2;go_meet;exact⟨0,l,rfl,HS.out _ I,L,z,I⟩
 case rest=>obtain⟨m,d,rfl,O,cc,HF,hf⟩:=hcut;obtain⟨ba,bc,rfl,_⟩:=O.shape;clear o F;have cj:=cJ d.length ω;have ck:IntKind.u64.wrap (d.length:Int)=(d.length:Int):=dF _ ω;have bs:=ad (ak.out l.length bb.out);have bu:=ad (ak.out d.length ω);have av:=nu eB wc #[Fk.u8 m] [m] 1 rfl (by simp[maxLen]) (al wc.heap.size);have bx:Fr wc (wc.alloc (.cells #[Fk.u8 m] 5)):=(Fr.refl wc).alloc _;have Q:Hid (T=au (([m]++ao l.length++ao d.length)++d)):=HF;generalize ao d.length=nb2,ao l.length=nb at *;go_wp2_with fail;refine(bs.out _).mono ?_;rintro e w2 ⟨v2,rfl,R,a2⟩;obtain⟨p2,z2,rfl⟩:=R.shape';go_wp2_with fail;refine(bu.out _).mono ?_;rintro e w3 ⟨v3,rfl,U,V⟩;obtain⟨p3,z3,rfl⟩:=U.shape';have a3:=(av.fr (a2.trans V)).see;have a4:=ad (BW _ _ _ [m] nb nb2 w3 a3 (R.fr V).see U.see (by simp;omega));have b1:=bx.trans (a2.trans V);clear av a3 R U;go_wp2_with fail;refine a4.out.mono ?_;rintro e w4 ⟨v4,rfl,J,b2⟩;obtain⟨A,X⟩:∃A,A=[m]++nb++nb2:=⟨_,rfl⟩;rw[<- X]at J Q;obtain⟨p4,z4,rfl⟩:=J.shape';have cu:A.length<=21:=(by rw[X];simp;omega);clear X a4;have a5:=b1.trans b2;have Y:=ad (BX _ _ A d w4 J.see (O.fr a5) ω);obtain⟨K,Z⟩:∃K,K=A++d:=⟨_,rfl⟩;rw[<- Z]at Y Q;have cv:K.length<=32800:=(by rw[Z,am];omega);clear J O Z;go_wp2_with fail;refine Y.out.mono ?_;rintro e w5 ⟨v5,rfl,aa,b4⟩;obtain⟨p5,z5,rfl⟩:=aa.shape';have ab:=hf.trans (a5.trans b4);have HP:=ad (yO _ K w5 aa.see ω (HT.out _ ab));rw[<- Q.out]at HP;clear Y aa;go_wp2_with fail;refine HP.out.mono ?_;rintro e w6 ⟨v6,rfl,b5,b6⟩;go_wp2;go_ret2;exact⟨_,rfl,b5.rebase ab.size,ab.trans b6⟩
def D7(l:List aU)(k:Nat)(h:k<265):(gx l).getD k 0=fT l k+if k=256 then 1 else 0:=by simp[gx,h]
def SX(l:List aU)(k:Nat)(h:k<12):(iB l).getD k 0=j8 l k:=by simp[iB,h]
def zT(l:List aU)(h:l.length<=1000000):∀x∈gx l,x<4294967296:=by
 intro x d;obtain⟨k,_,rfl⟩:=ee.1 d;have:=wY l k;show fT l k+(if k=256 then 1 else 0)<_;split <;> omega
def GV(l:List aU)(h:l.length<=1000000):∀x∈iB l,x<4294967296:=by
 intro x d;obtain⟨k,_,rfl⟩:=ee.1 d;have:=Bv l k;omega
def sZ(l:List aU):(gx l).length=265:=by simp[gx]
def yh(l:List aU):(iB l).length=12:=by simp[iB]
def zH(d:List Nat)(h:d.length<=32768):(aQ d).length<=32768:=ay (KN d) h
def Ba(d:List Nat)(h:∀x∈d,x<4294967296)(o:d.length<=32768)(s:Nat)(m:s<d.length)(z:0<d.getD s 0):¬bg (co d) s=0:=by
 have A:=Rb d h (zH d o) s m z;rw[nN _ _ (by rw[rO];exact m)];intro e;exact A (eP.1 e)
def SH(b:Z0)(o:b.length<=1000000):(∀t∈eh b,ex t=true/\sU (co (gx (eh b))) (co (iB (eh b))) t)/\¬bg (co (gx (eh b))) 256=0:=by
 have d:(eh b).length<=1000000:=ay (Bu b 0) ω;refine⟨λt e=>?_,?_⟩
 ·have h:=yf b 0 t e;obtain⟨p1,p2,_⟩:=xG t h;refine⟨h,?_,λm=>?_⟩;·refine Ba _ (zT _ d) (by rw[sZ];omega) _ (by rw[sZ];exact p1) ?_;rw[D7 _ _ p1];have:0<fT (eh b) (aX t).sym:=(by unfold fT;exact List.countP_pos_iff.2 ⟨t,e,σ⟩);omega
  ·refine Ba _ (GV _ d) (by rw[yh];omega) _ (by rw[yh];exact p2) ?_;rw[SX _ _ p2];unfold j8;exact List.countP_pos_iff.2 ⟨t,e,by simp[m]⟩
 ·refine Ba _ (zT _ d) (by rw[sZ];omega) _ (by rw[sZ];omega) ?_;rw[D7 _ _ ω,af rfl];omega
def Vm(p:Bool)(b q:Z0)(d:b.length<=32768):df (mN p b++q)=(b,(mN p b).length,0):=by
 unfold mN;by_cases h:p=false/\(nj b).length<b.length
 ·rw [af h];have e:(eh b).length<=1000000:=ay (Bu b 0) (by omega);obtain⟨m,A⟩:=SH b (by omega);have o:=FW (gx (eh b)) (zT _ e) (zH _ (by rw [sZ];omega));have z:=FW (iB (eh b)) (GV _ e) (zH _ (by rw [yh];omega));have D:=GF b 0 (ar _);refine Vl b (nj b) q d (by omega) (MX _ _ b o z m) (KO _ _ ?_);exact Lx _ _ (eh b) b.length o z (vq _) (vq _) (by rw [rO, sZ]) (by rw [rO, yh]) A (by
    show ((gL b 0).map db).sum ≤ _
    rw[D]; omega) m (R8 _ _ _)
 ·rw[ae h];exact Vk b q d
structure gA (l:List aq):Prop where
 len:l.length<=60
 wt:bS eT l<=4000
theorem CH{α:Type}(f:α->Nat):∀(l:List α) (x:α),x∈l->f x<=bS f l
 | [],x,h=>by cases h
 | y::l,x,h=>by
  simp only[bS,dD,gQ]
  rcases gR.1 h with rfl | h
  ·omega
  ·have:=CH f l x h
   unfold bS at this
   omega
def gA.each{l:List aq}(h:gA l):∀r∈l,r.source.length+r.text.length<=3984:=λr d=>by
 have e:=CH eT l r d
 have m:=h.wt
 unfold eT at e m
 omega
def gA.ok{l:List aq}(h:gA l):mE l=true:=by
 unfold mE;rw[bp (by have:=h.len;omega),bp (by have:=h.wt;omega)];simp only[Bool.and_true,qA];rw[pE];intro r d;have:=h.each r d;unfold i9;rw[br ω,br ω];rfl
def CE{α:Type}(f g:α->Nat)(l:List α)(c:Nat)(h:∀x∈l,f x=c+g x):bS f l=l.length*c+bS g l:=by
 induction l with
 | nil=>simp[bS]
 | cons x l d=>have e:=d (λy m=>h y (by simp[m]));have o:=h x σ;simp only[bS,dD,gQ,aL]at *;rw[e,o,be];omega
def PB(r:aq)(h:r.source.length+r.text.length<=3984):(gV false r).length<=r.source.length+r.text.length+20:=by
 have d:=cJ r.source.length ω;have e:=cJ r.text.length ω;unfold gV ci;simp only[Bool.false_eq_true,if_false,fJ,am];omega
def Ko{α:Type}(f:α->Nat){g l:List α}(h:g.Sublist l):bS f g<=bS f l:=by
 induction h with
 | slnil=>exact al _
 | cons a _ d=>simp only[bS,dD,gQ]at *;omega
 | cons_cons a _ d=>simp only[bS,dD,gQ]at *;omega
def gA.bytes{l:List aq}(h:gA l)(g:List aq)(d:g.Sublist l):(dL false g).length<=6000:=by
 have m:(dL false g).length<=(dL false l).length:=by unfold dL;rw[kR,kR];exact Ko _ d
 have o:(dL false l).length<=bS (λr=>eT r+4) l:=by unfold dL;rw[kR];refine CG _ _ l λr e=>?_;have:=PB r (h.each r e);unfold eT;omega
 have z:=CE (λr=>eT r+4) eT l 4 (λr _=>by omega);have:=h.wt;have:=h.len;omega
def dd(p:Bool)(l:List aq)(d:List Nat)(k:Nat):Z0:=mN p (dL false ((l.take (d.take (k+1)).sum).drop (d.take k).sum))
def eF(d:Nat->Z0)(k:Nat):List Z0:=(List.range k).map d
def S8(d:Nat->Z0)(k:Nat):eF d (k+1)=eF d k++[d k]:=by unfold eF;rw[jr,eD];rfl
def GA{α:Type}(S:Nat)(f:α->Nat)(l:List α):(cZ S f l).length<=l.length:=by
 have A:=vA S f l;have d:∀x∈cZ S f l,1<=x:=by
  cases l with
  | nil=>intro x e;cases e
  | cons r l=>exact G9 S f l 1 (f r) (al _)
 have key:∀m:List Nat,(∀x∈m,1<=x)->m.length<=m.sum:=by
  intro m
  induction m with
  | nil=>intro _;simp
  | cons x m o=>intro h;have D:=o (λy z=>h y (by simp[z]));have F:=h x σ;simp only[aL,gQ];omega
 have:=key _ d;omega
def gA.frm{l:List aq}(h:gA l)(p:Bool)(d:List Nat)(k:Nat):(dL false ((l.take (d.take (k+1)).sum).drop (d.take k).sum)).length<=6000/\(dd p l d k).length<=6025:=by
 have e:=h.bytes ((l.take (d.take (k+1)).sum).drop (d.take k).sum) ((List.drop_sublist _ _).trans (List.take_sublist _ _));refine⟨e,?_⟩;have:=Vj p _ (Nat.lt_of_le_of_lt e ω);unfold dd;omega
def GP(d:Nat->Z0)(b:Nat)(h:∀k,(d k).length<=b)(k:Nat):(eF d k).flatten.length<=k*b:=by
 unfold eF;rw[kR];refine ay (oB _ b _ λi _=>h i) ?_;rw[jY];exact al _
def YB(w:World)(b:Nat)(e:Value)(a:Z0)(m:Value):Prop:=
 (bX a=false/\e=.agg #[.slice none 0 0,.slice none 0 0])\/(bX a=true/\∃d h,e=.agg #[d,h]/\Ow w b eB d a/\Ow w b eU h (eK a)/\(d.ownBlock=none\/d.ownBlock≠m.ownBlock))
