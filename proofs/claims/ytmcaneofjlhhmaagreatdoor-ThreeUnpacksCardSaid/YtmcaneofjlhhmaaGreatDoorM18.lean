/- Lemmas. -/
import Derived.Test.YtmcaneofjlhhmaaGreatDoorM17
import Derived.Test.YtmcaneofjlhhmaaGreatDoorM35
import Derived.Test.YtmcaneofjlhhmaaGreatDoorM36
set_option linter.all false
set_option maxHeartbeats 8000000
set_option maxRecDepth 100000
namespace Go.Proofs
open RowKit Fk Tryz
def J3(l:U0)(n A k c:Nat)(e:0<c)(d:l.length<=n)(f:A+k*c<=n):ml (((lZ l n).drop A).take (k*c)) c=jL l c A k:=by
 have h:=wQ l n d;have m:(((lZ l n).drop A).take (k*c)).length=k*c:=by rw[aP,bn,h];omega
 have o:bK (k*c) c=k:=by unfold bK;rw[show k*c+c-1=c*k+(c-1) by rw[g7];omega,uT e,oh ω,g8]
 apply jI;·simp[ml,jL,m,o]
 ·intro j q p;rw[wN]at p;have:=cY c (show j+1<=k by omega);rw[bP,gl]at this;simp only[ml,jL,jm,lq];exact J4 l n A (k*c) (j*c) c d f this
def tT{w w':World}{b:Nat}(h:w'.heap[b]?=w.heap[b]?)(e:b<w.heap.size):b<w'.heap.size:=by
 rcases mA b w'.heap.size with d | d;·exact d
 ·rw[qZ d,Array.getElem?_eq_getElem e]at h;cases h
def nG:Value->Nat | .slice _ n _=>n | _=>0
def Q0(k m c:Nat)(v:Value)(l:U0)(w:World)(hv:ao w eB v l)(ca:1<=k)(g0:k+m<=255)(ap:1<=c)(hc:c<=4096)(hl:l.length<=1000000)(hz:aV k c l.length*((k+m)*(c+4))<=16777216)(ht:dm w):Calls prog 18 #[N k,N m,N c,v] w λe w'=>∃v',e=.returned (.tuple #[v',.int .i64 0])/\Ow w' w.heap.size eB v' (ib l k m c (aV k c l.length))/\Fr w w':=by
 obtain⟨va,vc,rfl,j7,g2,ka⟩:=hv.shape;unfold maxLen at g2;have HS:=ad (EN k m c l.length ca g0 ap hc);rw[(rz k m c l.length).1 ω |>.1 hz]at HS;have HP:=ad (λW dv hs ds (h:cV W aS eB dv hs ds) (Q:ds.length=k) (V:∀p∈ds,p.length=c)=>Fi m dv hs ds c W h ω ω V ω);have g4:=ad (λW pv p (h:ao W eB pv p) (V:p.length<=1000000) (h3:dm W)=>zk pv p W h V h3);have g5:=ad (AI k m c l.length ca ap ω hc ω);have HD:=ad (AX k m c ω hc);have kb:1*1<=k*c:=bo ca ap;have kc:k*c<=255*4096:=bo ω hc;have kd:aV k c l.length*(k*c)<=l.length+k*c:=by unfold aV;have Q:=Nat.div_mul_le_self (l.length+k*c-1) (k*c);omega
 have ke:=mE (aV k c l.length) (k*c) (1000000+255*4096) ω ω;have ch:l.length<=aV k c l.length*(k*c):=by have:=λh=>(rx k c l.length ω (aV k c l.length)).2 h;omega
 go_in;go_wp2_with fail;refine(HS.out _).mono ?_;rintro e R ⟨rfl,ci⟩;have bu:(prog.info? 100).map (·.size)=some 3:=by kernel_rfl
 have cT:(#[N k,N m,N c]:Array Value).all (·.oneCell')=true:=by rw[dQ];rfl
 have h3:=aD R (.cells #[.int .i64 0,.int .i64 0,.int .i64 0] 100) _ rfl;have az:=ti _ _ #[N k,N m,N c] _ _ h3;have bc:Fr R ((R.alloc (.cells #[.int .i64 0,.int .i64 0,.int .i64 0] 100)).setRow R.heap.size #[N k,N m,N c]):=ag.below ((Fr.refl R).alloc _) (bh _ _ _) σ (λq hq=>by rw[hq];exact au _);go_upto_region 5 with(refine bB rfl 100 (.tmp 12) (.tmp 35) rfl R.heap.size #[N k,N m,N c] rfl rfl 100 _ h3 bu rfl cT ?_);generalize (R.alloc (.cells #[.int .i64 0,.int .i64 0,.int .i64 0] 100)).setRow R.heap.size #[N k,N m,N c]=W at *;have bv:=ci.trans bc;have hg:w.heap.size<=R.heap.size:=ci.size;generalize R.heap.size=g at *;clear h3 cT bc ci HS;generalize hN:aV k c l.length=F at *;have HN:=ad hN;clear hN;have hh:=λW=>mS eB rfl rfl 22 sJ .i64 .i64 (F*(k*c)) ω W;have a0:=af az 0 rfl;have a1:=af az 1 rfl;have a2:=af az 2 rfl;generalize a3:F*(k*c)=M at *;generalize hd:k*c=d at *;have bx:=ad a3;have b3:=ad hd;clear a3 hd;have kl:¬(M:Int)<0:=ω
 go_region_held3 (λw' => w'.cell? ⟨g, 0, none⟩ = some (N k) ∧ w'.cell? ⟨g, 1, none⟩ = some (N m) ∧ w'.cell? ⟨g, 2, none⟩ = some (N c))
  (first | go_keep)
  ((first
    | (go_at_call 48; refine (g5.out _).mono ?_; rintro e U ⟨rfl, aj⟩; have b0 := aj.cell a0; have b1 := aj.cell a1; have b2 := aj.cell a2)
    | (go_at_call 49; refine (HD.out _).mono ?_; rintro e G ⟨rfl, a4⟩; have d0 := a4.cell b0; have d1 := a4.cell b1; have d2 := a4.cell b2)))
 have b4:Fr W G:=((Fr.drew (Fr.refl W)).trans aj).trans a4;have dz:=nN (base:=w.heap.size) eB rfl rfl M ω G (by have:=(bv.trans b4).size;exact this);have dE:=b4.alloc (.cells (madeCells #[eB.z] M) eB.e);have dT:=dE.heap az;have b5:=bv.trans dE;have ho:g<G.heap.size:=by have:=(aX.1 (b4.heap az)).1;exact this
 have eb:=hv.fr b5;have km:w.heap.size<=G.heap.size:=(bv.trans b4).size;have hr:l.length<=(List.replicate M eB.zero).length:=by rw[jF];exact ch
 clear d0 d1 d2 b0 b1 b2 a0 a1 a2 aj az bv hh;generalize G.alloc (.cells (madeCells #[eB.z] M) eB.e)=w4 at *;generalize G.heap.size=I at *;go_wp2_with (with_reducible refine zQ rfl rfl (.tmp 44) (.tmp 45) 22 22 rfl sJ _ _ _ _ rfl rfl dz eb hr ?_);intro K bd ck;have cl:l++List.replicate (M-l.length) eB.zero=lZ l M:=by unfold lZ;rw[zw];rfl
 first | rw[cl]at bd | (rw[zw,cl]at bd)
 have cm:=ck.heap dT (λe=>by cases e;exact absurd ho (Nat.lt_irrefl _));have ec:Fr w K:=(ag.below (B:=w.heap.size) b5 ck b5.size (λq e=>by simp only[Value.ownBlock,ji]at e;omega));have ef:=bd.see;have hu:I<K.heap.size:=(bd.lt I rfl).2;clear bd ck dz eb cl b5 dT;have ek:I+1<=K.heap.size:=by have:=hu;omega
 have kn:((F*((k+m)*(c+4)):Nat):Int)=((F*((k+m)*(c+4)):Nat):Int):=rfl;go_wp2_with (refine rm eB rfl (.const (.int .i64 0)) (.tmp 47) 22 rfl sJ .i64 .i64 _ (F*((k+m)*(c+4))) rfl rfl rfl ω (I+1) ek ?_);intro w6 em b6;have eq:w6.heap[g]?=some (.cells #[N k,N m,N c] 100 (0,0)):=(b6.block g (aX.1 cm).1 σ).trans cm;have er:Fr K w6:=Fr.own (Fr.refl K) b6 (λk e=>by cases e);have es:=ec.trans er;have be:I<K.heap.size:=ek;have ev:w6.heap[I]?=K.heap[I]?:=b6.block I be σ;have e0:=ef;clear ef cm ec b6 er;have e2:=wQ l M ch;generalize hZ:lZ l M=Z at *;have HZ:=ad hZ;have hx:=ad e2;clear hZ e2;have hy:Hid (∀s,s<F->ml ((Z.drop (s*d)).take d) c=jL l c (s*d) k):=by intro s hs;rw[<- HZ.out,<- b3.out];refine J3 l M _ k c ω ch ?_;have:=cY (k*c) (show s+1<=F by omega);rw[bP,gl,b3.out,bx.out]at this;rw[b3.out];exact this
 go_wp2;go_loopw [13,14] (λav ov wr=>∃(s n a5 ak:Nat),s<=F/\Hid (n=(F-s)*d)/\av=.slice (some ⟨I,a5,none⟩) n ak/\wr.heap[I]?=K.heap[I]? /\ ao K eB (.slice (some ⟨I,a5,none⟩) n ak) (Z.drop (s*d))/\Ow wr (I+1) eB ov (ib l k m c s)/\wr.heap[g]?=some (.cells #[N k,N m,N c] 100 (0,0))/\Fr w wr) (λav _ _=>nG av);·exact⟨0,M,0,M,ax _,by show _=_;rw[<- bx.out,Nat.sub_zero],rfl,ev,by simpa using e0,em,eq,es⟩
 ·
  clear e0 em eq es ev;obtain⟨s,n,a5,ak,hs,b9,rfl,bf,a3,X,hB,Y⟩:=hrel;by_cases h0:s<F
  ·have hA:s*d+d<=M:=(by have:=cY d (show s+1<=F by omega);rw[bP,gl,bx.out]at this;exact this);have kr:d<=n:=(by rw[b9.out];have:=cY d (show 1<=F-s by omega);omega);have h4:Hid (n-d=(F-(s+1))*d):=(by show _=_;rw[b9.out,show F-s=(F-(s+1))+1 by omega,bP,gl];omega);have h5:Hid (Z.drop ((s+1)*d)=(Z.drop (s*d)).drop d):=ad (by rw[kP,bP,gl]);have h6:Hid (ib l k m c (s+1)=ib l k m c s++ru l k m c (s*d)):=ad (by rw[<- b3.out];rfl);have h7:Hid ((ib l k m c s).length+(k+m)*(c+4)<=16777216):=(by show _<=_;rw[xJ];have Q:=cY ((k+m)*(c+4)) (show s+1<=F by omega);rw[bP,gl]at Q;omega);have h8:=ad (hy.out s h0);have cq:(Z.drop (s*d)).length=n:=(by rw[bn,hx.out,b9.out,Nat.sub_mul,bx.out]);generalize ib l k m c s=lay,s*d=A,Z.drop (s*d)=J at *;have e4:ao wr eB (.slice (some ⟨I,a5,none⟩) n ak) J:=AW a3 bf;have h9:=gw eB 22 sJ e4 d ω;obtain⟨hE,hG,hH,e5⟩:=Iq eB 22 sJ a3 d ω;rw[cq]at hH e5;obtain⟨hI,cr⟩:=h9;have ks:(0:Int)<n:=ω;have bu:(prog.info? 100).map (·.size)=some 3:=(by kernel_rfl);have hJ:=ad cq;clear cq e4;have kv:g<wr.heap.size:=(aX.1 hB).1;have e6:I<wr.heap.size:=tT bf be;generalize wr=W at *;go_upto_region 9 with fail;go_wp2_with (first | (refine dM rfl 100 (.tmp 12) rfl g rfl 100 #[N k,N m,N c] (0,0) _ hB underlying100 rfl bu ?_));refine(HD.out _).mono ?_;rintro e U ⟨rfl,aj⟩;go_wp2_with fail;refine(Eg _ d ak c ap _).mono ?_;rintro e G ⟨rfl,bC⟩;have e7:G.heap[U.heap.size]?=some (.cells #[.slice (some ⟨I,a5,none⟩) d ak] 22 (0,0)):=(by rw[bC,gn _ _ _ σ];exact aD _ _ _ rfl);have cs:G.heap[U.heap.size+1]?=some (.cells #[N c] 3 (0,0)):=(by rw[bC];exact aD _ _ _ σ);have a4:Fr U G:=(by rw[bC];exact((Fr.refl U).alloc _).alloc _);have hK:U.heap.size+1<G.heap.size:=(aX.1 cs).1;have bk:=aj.trans a4;have e8:=cr.fr bk;have ac:(J.take d).length=d:=(by rw[aP,hJ.out];omega);obtain⟨z,al,e9,eC⟩:=Nr U.heap.size (U.heap.size+1) _ (J.take d) c ap ω (by rw[ac];omega) G e7 cs e8;have hL:z=I/\al=a5:=by
    rcases e9 with h | ⟨k0,h⟩;·rw[h]at ac;simp at ac;omega
    ·rw[ac]at h;simp only[dt,ji,pI,lj]at h;exact⟨h.1.1.symm,h.1.2.symm⟩
   obtain⟨rfl,rfl⟩:=hL;have eL := ad (Nc _ rfl _ _ U.heap.size (U.heap.size + 1) _ _ _ _ (fun ys h => h) G (by omega) hK (by
     rw[ac];unfold bK
     exact ar (il _ _) ω) eC)
   clear eC e9 e7 cs bC hI;go_wp2_with fail;refine eL.out.mono ?_;rintro e w4 ⟨v4,rfl,ct,bc⟩;have bG:=bk.trans bc;have fb:ao w4 eB (.slice (some ⟨z,al,none⟩) (J.take d).length ak) (J.take d):=(by rw[ac];exact cr.fr bG);have bl:=Nl (E:=eB) rfl ap fb ct.see;rw[h8.out]at bl;have a6:=ad (wN l c A k);have fc:(go z al (J.take d).length c (bK (J.take d).length c)).length=k:=(by rw[bl.2.1];exact a6.out);have bm:=ad fc;clear fc;have fe:∀i (h:i<(go z al (J.take d).length c (bK (J.take d).length c)).length),∃o n' c',(go z al (J.take d).length c (bK (J.take d).length c))[i].v=.slice (some ⟨z,o,none⟩) n' c':=λi h=>⟨al+i*c,min c ((J.take d).length-i*c),min c ((J.take d).length-i*c),by simp[go,kB,Hd.v]⟩;have hM:=ad fe;clear fe;generalize go z al (J.take d).length c (bK (J.take d).length c)=O at *;have fn:=ad (HP.out w4 v4 _ _ bl a6.out (rE l c A k));have k2:=ad ac;clear ac eL fb;go_wp2_with fail;refine fn.out.mono ?_;rintro e w9 ⟨v9,rfl,ah,fr,cu,bL⟩;have hO:=ad (wP m _ c (rE l c A k));have cv:=ad (tJ m (jL l c A k) c);have hR:Hid (ib l k m c (s+1)=lay++gQ (jL l c A k++js m (jL l c A k) c)):=ad (by rw[h6.out,ru,Jf]);have hS:=ad (rE l c A k);generalize jL l c A k=D at *;generalize js m D c=L at *;clear fn;have fv:=ad cu.1;have a7:=bG.trans bL;have fB:=bc.trans bL;have a8:=ct.fr bL;have hU:O.length+ah.length<=2147483648:=(by rw[bm.out,fv.out,cv.out];omega);go_wp2_with (at_builtin;refine fT aS rfl (.tmp 65) (.tmp 66) 42 rfl uAE G.heap.size rfl a8 _ _ rfl fr.see hU fB.size ?_);intro v7 w7 aa;have hT:aS.e≠eB.e:=δ;have c0:=aa.own;have fC:∀q,q<G.heap.size->v4.ownBlock≠some q:=λq hq e=>(by have:=(a8.lt q e).1;omega);have fD:w7.heap[z]?=K.heap[z]?:=(by rw[aa.chg.block z (by have:=a7.size;omega) (λe=>fC z (by have:=bk.size;omega) e.symm),pH a7 z e6];exact bf);have fE:=aa.chg'.heap (a7.heap hB) (λe=>fC g (by have:=bk.size;omega) e);have fN:=bX (X.fr a7) a8 aa hT;have c1:Fr w w7:=(aa.below a8 (Y.trans a7) (by have:=(Y.trans bk).size;omega) (Y.trans a7).size);have fP:kF w7 w4.heap.size eB ah L u14:=(cu.rows (λb hb=>jk (X.lt b hb).2 bG.size)).beside a8 aa hT;obtain⟨hV,hW,fQ⟩:=c0.shape';have c4:(O++ah).length=k+m:=(by rw[aM,bm.out,fv.out,cv.out]);rw[c4]at fQ;have fS:=ad c4;clear c4;subst fQ;have gb:w4.heap[z]?=K.heap[z]?:=(pH bG z e6).trans bf;have gc:∀(wr:World),wr.heap[z]?=K.heap[z]? -> ∀i (Q:i<O.length) (V:i<D.length),ao wr eB O[i].v D[i]:=λwr hb i Q V=>(by obtain⟨o,n',c',he⟩:=hM.out i Q;have:=bl.2.2 i Q V;rw[he]at this ⊢;exact AW this (hb.trans gb.symm));have ia:=ad gc;have k7:lay.length+(k+m)*(c+4)<=16777216:=h7.out;have ic:dm w7:=ht.fr c1;have k8:G.heap.size<=w7.heap.size:=ar fB.size aa.size;have k9:w4.heap.size<=w7.heap.size:=ar bL.size aa.size;have ge:Hid (∀p∈D++L,p.length=c):=λp hp=>(iI.1 hp).elim (hS.out p) (hO.out p);have gg:Hid ((D++L).length=k+m):=ad (by rw[aM,a6.out,cv.out]);clear gc bl aa a8 ct fr cu X hB bf a3 cr e8 gb ic;go_wp2;go_loopw [14,69] (λov iv wr=>∃i:Nat,i<=k+m/\iv=N i/\wr.heap[z]?=K.heap[z]? /\ Ow wr (z+1) eB ov (lay++gQ ((D++L).take i))/\kF wr w4.heap.size eB ah L ov/\Ow wr G.heap.size aS (.slice hV (k+m) hW) (O++ah)/\wr.heap[g]?=some (.cells #[N k,N m,N c] 100 (0,0))/\Fr w wr) (λ_ iv _=>k+m-(intOf iv).toNat);·exact⟨0,ax _,rfl,fD,by simpa [gQ] using fN,fP,c0,fE,c1⟩
   ·
    clear fD fN fP c0 fE c1;obtain⟨i,hi,rfl,aC,X,c7,c8,hB,Y⟩:=hrel;by_cases gi:i<k+m
    ·have lc:(i:Int)<(k:Int)+m:=ω;have li:(i:Int)<((k+m:Nat):Int):=ω;have Q:i<(O++ah).length:=(by rw[fS.out];exact gi);have V:i<(D++L).length:=(by rw[gg.out];exact gi);have c9:ao wr eB (O++ah)[i].v (D++L)[i]:=by
      by_cases bR:i<O.length;·have cB:i<D.length:=(by rw[a6.out,<- bm.out];exact bR);rw[iy bR,iy cB];exact ia.out wr aC i bR cB
      ·have cB:¬i<D.length:=(by rw[a6.out,<- bm.out];exact bR);rw[kM ω,kM ω];have e:i-D.length=i-O.length:=(by rw[a6.out,bm.out]);simp only[e];exact(c7.2 (i-O.length) _ _).1.see
     have ih:Hid (gQ ((D++L).take (i+1))=gQ ((D++L).take i)++bD (D++L)[i]):=ad (by rw[ea V,Je]);have ij:Hid ((gQ ((D++L).take i)).length=i*(c+4)):=(by show _=_;rw[wJ _ c (λp hp=>ge.out p (kg hp)),aP,kf ω]);have cC:Hid ((D++L)[i].length=c):=ge.out _ (co _);have ll:i*(c+4)+(c+4)<=(k+m)*(c+4):=(by have:=cY (c+4) (show i+1<=k+m by omega);rw[bP,gl]at this;exact this);obtain⟨bb,oo,cc,gr,e1⟩:=c8.see.cell1 (λ(h:Hd)=>h.v) rfl i Q;obtain⟨ra,rc,cE,_⟩:=c9.shape;rw[cC.out]at cE;rw[fS.out]at gr;generalize (O++ah)[i]=h at *;obtain⟨ha,hn,lz⟩:=h;simp only[Hd.v,dt]at cE;obtain⟨rfl,rfl,rfl⟩:=cE;simp only[Hd.v]at e1 c9;cases gr;have i1:(0:Int)<=i:=ω;have HC:=ad (g4.out wr _ _ c9 (by rw[cC.out];omega) (ht.fr Y));generalize (D++L)[i]=pj at *;go_wp2_with fail;refine HC.out.mono ?_;rintro e i4 ⟨l1,rfl,i5,ai⟩;have bS:=X.fr ai;have i6:(lay++gQ ((D++L).take i)).length+(bD pj).length<=2147483648:=(by rw[aM,nJ,cC.out,ij.out];omega);have i7:z+1<=i4.heap.size:=(by have Q:=ai.size;have V:z<wr.heap.size:=tT aC be;omega);go_wp2_with (at_builtin;refine fT eB rfl (.tmp 73) (.tmp 75) 22 rfl sJ (z+1) rfl bS _ _ rfl i5.see i6 i7 ?_);intro l2 gs am;have gv:∀q,q<z+1->u14.ownBlock≠some q:=λq hq e=>(by have:=(bS.lt q e).1;omega);have i8:gs.heap[z]?=K.heap[z]?:=(by rw[am.chg.block z ω (λe=>gv z ω e.symm),pH ai z (tT aC be)];exact aC);have jn:=am.chg'.heap (ai.heap hB) (λe=>gv g ω e);have jv:=(c7.fr ai).app am;have j0:=JH (c8.fr ai) bS am hT;have j1:Fr w gs:=am.below bS (Y.trans ai) ω (Y.trans ai).size;go_wp2;go_roundw;·exact⟨i+1,ω,γ,i8,by rw[ih.out];first | exact am.own | (rw[<- iK];exact am.own),jv,j0,jn,j1⟩
     ·exact μ
    ·obtain rfl:i=k+m:=ω;have l3:¬(((k+m:Nat):Int)<((k+m:Nat):Int)):=ω;rw[dN (by rw[gg.out];exact au _),<- hR.out]at X;clear c8 c7;go_wp2_with (first | (refine dM rfl 100 (.tmp 12) rfl g rfl 100 #[N k,N m,N c] (0,0) _ hB underlying100 rfl bu ?_));refine(HD.out _).mono ?_;rintro e l4 ⟨rfl,bT⟩;go_wp2;go_roundw;·exact⟨s+1,n-d,hE,hG,ω,h4.out,rfl,(pH bT z (tT aC be)).trans aC,by rw[h5.out];exact e5,X.fr bT,bT.heap hB,Y.trans bT⟩
     ·simp only[nG];omega
  ·obtain rfl:s=F:=ω;obtain rfl:n=0:=(by rw[b9.out,eA,qH]);go_wp2_with fail;obtain⟨oa,oc,rfl⟩:=X.shape';exact aT (v:=.tuple #[.slice oa (ib l k m c s).length oc,.int .i64 0]) (by simp[results,results18,go_sem, *]) rfl ⟨_,rfl,by rw[HN.out];exact X.rebase ω,Y⟩
def RD:aJ prog Hd:=⟨396,1,24,⟨none,0,0⟩,.slice none 0 0,λh=>[h.v],by kernel_rfl,δ,δ,by simp[Value.cells],λ_=>rfl,by intro x u d;simp at d;subst d;rfl⟩
def KP(d:List Nat)(s:Nat):Nat:=
 if(rq d).length=0 then 0
 else if(rq d).length=1 then(if s=(rq d).getD 0 0 then 1 else 0)
 else(sZ ((oH (KQ d (rq d)) 14).take (2*(rq d).length-2))).count s
def Nh(L:Nat)(f:Nat->Nat):U0:=(List.range L).map λs=>UInt8.ofNat (f s)
def CH(d:List Nat):U0:=Nh d.length (KP d)
def qu(e:Nat)(p:Bool)(f d q c:Nat)(b:U0):U0:=
 bD (gy e p f d q c b.length)++ib b d q c (aV d c b.length)++bD (gy e p f d q c b.length)
def QX(g m o d q c n:Nat)(p:Bool){V:Value}(v:Value)(l:U0)(w:World)(K:w.heap[g]?=some (mU m p o d q c n V))(z:ao w eB v l)(L:dm w)(X:m<=32768)(Y:o<256)(Z:d<256)(h4:q<256)(h5:c<=4096)(h6:n<=1000000)(hl:l.length<=20000000):Calls prog 19 #[.pointer (some ⟨g,0,none⟩),v] w λe w'=>∃v,e=.returned v/\Ow w' w.heap.size eB v (bD (gy m p o d q c n)++l++bD (gy m p o d q c n))/\Fr w w':=by
 have M:=ad (λW (h:Fr w W)=>QH g m o d q c n p W (h.heap K) (L.fr h) X Y Z h4 h5 h6);have A:=nJ (gy m p o d q c n);rw[tZ]at A;have Hl:=ad A;have HA:=ad (λW O Q (ha:ao W eB O (bD (gy m p o d q c n))) (hb:ao W eB v l) (hc:ao W eB Q (bD (gy m p o d q c n)))=>O1 O v Q _ l _ W ha hb hc ω);clear A;obtain⟨a0,a6,hv,a7,a8,am⟩:=z.shape;have HS:=ad (λW (h:Fr w W)=>z.fr h);subst hv;clear z am L K;generalize bD (gy m p o d q c n)=H at *;go_in;go_wp2_with fail;refine(M.out _ (Fr.refl w)).mono ?_;rintro e w1 ⟨v1,rfl,D,F⟩;obtain⟨p1,z1,rfl⟩:=D.shape';go_wp2_with fail;refine(M.out _ F).mono ?_;rintro e R ⟨v2,rfl,G,I⟩;have J:=F.trans I;have HH:=ad (HA.out R _ v2 (D.fr I).see (HS.out R J) G.see);obtain⟨p2,z2,rfl⟩:=G.shape';clear D G F I;go_wp2_with fail;refine HH.out.mono ?_;rintro e w3 ⟨v3,rfl,U,a1⟩;have HR:=ad (U.rebase J.size);clear U;go_wp2;go_ret;exact⟨_,rfl,HR.out,J.trans a1⟩
def KV(d q c n:Nat)(h:q<=4*d)(m:4<=c)(e:d<=8)(f:c<=100)(o:n<=1000000):aV d c n*((d+q)*(c+4))<=16777216:=by
 have p:aV d c n*(d*c)<=n+d*c-1:=Nat.div_mul_le_self _ _;have z:(d+q)*(c+4)<=(5*d)*(2*c):=bo ω ω;have A:(5*d)*(2*c)=10*(d*c):=by rw[Nat.mul_mul_mul_comm]
 have D:d*c<=8*100:=bo e f;have F:aV d c n*((d+q)*(c+4))<=aV d c n*(10*(d*c)):=lN _ ω;have G:aV d c n*(10*(d*c))=10*(aV d c n*(d*c)):=by rw[Nat.mul_left_comm]
 omega
def hX(h:U0):Nat:=(h.getD 5 0).toNat
def fZ(h:U0):Nat:=(h.getD 6 0).toNat
def hD(h:U0):Nat:=(h.getD 7 0).toNat
def hQ(h:U0):Nat:=(h.getD 8 0).toNat
def hC(h:U0):Nat:=cd ((h.drop 9).take 2)
def ie(h:U0):Nat:=cd ((h.drop 11).take 2)
def hN(h:U0):Nat:=cd ((h.drop 13).take 4)
def hP(h:U0):Bool:=decide (hX h=1)
def bM(h:U0):fK:=⟨(ie h:Int),hP h,(fZ h:Int),(hD h:Int),(hQ h:Int),(hC h:Int)⟩
def pU(h:U0)(d:gX (bM h)=true):16<=ie h/\ie h<=32768/\1<=fZ h/\fZ h<=64/\1<=hD h/\hD h+hQ h<=255/\1<=hC h/\hC h<=4096:=by
 have e:=(wV _).1 d;obtain⟨f,m,k3,o,p,q,z,A,D,F⟩:=e;simp only[bM]at f m k3 o p q z A D F;omega
def iC(b:U0):U0:=(b.drop 21).take (b.length-42)
def dZ(b:U0):Nat × U0 × List Nat:=eu (hD (aq b)) (hQ (aq b)) (hC (aq b)) (hN (aq b)) (iC b)
def bg(b:U0):Nat × U0 × Nat:=
 if b.length<42 then(1,[],0)else if iD b=false then(5,[],0)else if 1<hX (aq b)then(2,[],0)else if gX (bM (aq b))=false then(9,[],0)
 else if(dZ b).1=0 then(0,(dZ b).2.1,(dZ b).2.2.length+(if b.take 21=b.drop (b.length-21)then 0 else 1))else((dZ b).1,[],0)
def yC(b:U0)(h:b.length<42):bg b=(1,[],0):=by unfold bg;rw[an h]
def yB(b:U0)(h:¬b.length<42)(d:iD b=false):bg b=(5,[],0):=by unfold bg;rw[ae h,an d]
def yG(b:U0)(h:¬b.length<42)(d:iD b=true)(e:1<hX (aq b)):bg b=(2,[],0):=by unfold bg;rw[ae h,ae (by rw[d];simp),an e]
def yE(b:U0)(h:¬b.length<42)(d:iD b=true)(e:¬1<hX (aq b))(f:gX (bM (aq b))=false):bg b=(9,[],0):=by unfold bg;rw[ae h,ae (by rw[d];simp),ae e,an f]
def yD(b:U0)(h:¬b.length<42)(d:iD b=true)(e:¬1<hX (aq b))(f:gX (bM (aq b))=true)(m:(dZ b).1≠0):bg b=((dZ b).1,[],0):=by unfold bg;rw[ae h,ae (by rw[d];simp),ae e,ae (by rw[f];simp),ae m]
def yF(b:U0)(h:¬b.length<42)(d:iD b=true)(e:¬1<hX (aq b))(f:gX (bM (aq b))=true)(m:(dZ b).1=0):bg b=(0,(dZ b).2.1,(dZ b).2.2.length+(if b.take 21=b.drop (b.length-21)then 0 else 1)):=by unfold bg;rw[ae h,ae (by rw[d];simp),ae e,ae (by rw[f];simp),an m]
def Di(b:U0)(h:¬b.length<42):(aq b).length=21:=by
 unfold aq;grind
def rU(b:U0):(iC b).length=b.length-42:=by
 unfold iC;grind
def vR(k m c:Nat)(l:U0)(a:Nat)(h:a+(k+m)*(c+4)<=l.length)(d:(g9 k m c l a).1=0):(g9 k m c l a).2.flatten.length=k*c:=by
 unfold g9 at d ⊢;simp only at d ⊢;by_cases e:(aN (br l c a (k+m))).length<k;·rw[an e]at d;cases d
 ·rw[ae e]at d ⊢;by_cases f:nI (iZ k m c ((aN (br l c a (k+m))).take k) (dL ((aN (br l c a (k+m))).take k) (dA l c a (k+m)))) (dA l c a (k+m)) (br l c a (k+m))=true;·rw[an f];have o:(dL ((aN (br l c a (k+m))).take k) (dA l c a (k+m))).length=k:=(by rw[pf,aP];omega);have q:∀p∈dL ((aN (br l c a (k+m))).take k) (dA l c a (k+m)),p.length=c:=nX (br l c a (k+m)) (dA l c a (k+m)) c _ (λr z=>kg z) (wO l c a (k+m) h) (by rw[mV,pT]);have A:=tQ k m c ((aN (br l c a (k+m))).take k) _ o q;rw[ue c _ (λp D=>A p (kg D)),aP,tP,kf ω]
  ·rw[ae f]at d;cases d
theorem wD(k m c:Nat)(l:U0):∀(f s:Nat) (d:U0) (e:List Nat),(s+f)*((k+m)*(c+4))<=l.length->(fz k m c l f s d e).1=0->(fz k m c l f s d e).2.1.length=d.length+f*(k*c)
 | 0,_,d,e=>λ_ _=>by simp[fz]
 | f+1,s,d,e=>λp h=>by
  have q:s*((k+m)*(c+4))+(k+m)*(c+4)<=l.length:=by
   grind
  unfold fz at h ⊢
  by_cases o:(g9 k m c l (s*((k+m)*(c+4)))).1=0
  ·simp only[o,jh]at h ⊢
   rw[wD k m c l f (s+1) _ _ (by rw[show s+1+f=s+(f+1) by omega];exact p) h,aM,vR k m c l _ q o,bP]
   omega
  ·grind
def B3(k m c:Nat)(l:U0)(f s:Nat)(d:U0)(e:List Nat)(h:(g9 k m c l (s*((k+m)*(c+4)))).1=0):fz k m c l (f+1) s d e=fz k m c l f (s+1) (d++(g9 k m c l (s*((k+m)*(c+4)))).2.flatten) (e++lg l c (s*((k+m)*(c+4))) (k+m) (s*(k+m))):=by
 rw[fz];simp only[h,jh]
def B1(k m c:Nat)(l:U0)(f s:Nat)(d:U0)(e:List Nat)(h:(g9 k m c l (s*((k+m)*(c+4)))).1≠0):fz k m c l (f+1) s d e=((g9 k m c l (s*((k+m)*(c+4)))).1,[],[]):=by
 rw[fz];simp only[h,if_false]
def tC(k m c n:Nat)(l:U0)(h:8388608<n):eu k m c n l=(13,[],[]):=by unfold eu;rw[an h]
def tA(k m c n:Nat)(l:U0)(h:¬8388608<n)(d:16777216<aV k c n*((k+m)*(c+4))):eu k m c n l=(6,[],[]):=by unfold eu;rw[ae h,an d]
def tw(k m c n:Nat)(l:U0)(h:¬8388608<n)(d:¬16777216<aV k c n*((k+m)*(c+4)))(e:l.length<aV k c n*((k+m)*(c+4))):eu k m c n l=(1,[],[]):=by unfold eu;rw[ae h,ae d,an e]
def tx(k m c n:Nat)(l:U0)(h:¬8388608<n)(d:¬16777216<aV k c n*((k+m)*(c+4)))(e:aV k c n*((k+m)*(c+4))<l.length):eu k m c n l=(2,[],[]):=by unfold eu;rw[ae h,ae d,ae ω,an e]
def tB(k m c n:Nat)(l:U0)(h:¬8388608<n)(d:¬16777216<aV k c n*((k+m)*(c+4)))(e:l.length=aV k c n*((k+m)*(c+4))):eu k m c n l = (let r := fz k m c l (aV k c n) 0 [] []
    if r.1 = 0 then (if (r.2.1.drop n).all (· == 0) then (0, r.2.1.take n, r.2.2) else (2, [], [])) else (r.1, [], [])) := by unfold eu; rw[ae h, ae d, ae ω, ae ω]
def me(o:fK):Int:=if gX o then 0 else 9
def L4(v:Value)(h:U0)(w:World)(V:ao w eB v h)(D:h.length=21):Calls prog 56 #[v] w λe w'=>Fr w w'/\((1<hX h/\e=.returned (.tuple #[.pointer none,.int .i64 2]))\/(hX h<=1/\∃g,e=.returned (.tuple #[.pointer (some ⟨g,0,none⟩),.int .i64 (me (bM h))])/\w.heap.size<=g/\w'.heap[g]?=some (mU (ie h) (hP h) (fZ h) (hD h) (hQ h) (hC h) (hN h) (.int .u8 (hX h:Int))))):=by
 obtain⟨a0,c0,rfl,ec,ef,_⟩:=V.shape;obtain⟨fa,fc,X,Y⟩:=gN eB 22 sJ V 5 ω;rw[D,show 21-5=16 from rfl]at X Y;rw[D];have ek:∀W,(Instr.slice 22 (.slice a0 21 c0) (some (.int .i64 5)) none none).run prog W=.ok (.slice fa 16 fc) W:=X;clear X;have c6:(h.drop 5).length=16:=by rw[bn,D]
 have bc:=ad (nm _ (h.drop 5) w Y ω);have g0:(h.drop 5).getD 0 0=h.getD 5 0:=by rw[ce _ _ _ ω,ce _ _ _ ω];simp
 have g1:(h.drop 5).getD 1 0=h.getD 6 0:=by rw[ce _ _ _ ω,ce _ _ _ ω];simp
 have g2:(h.drop 5).getD 2 0=h.getD 7 0:=by rw[ce _ _ _ ω,ce _ _ _ ω];simp
 have g3:(h.drop 5).getD 3 0=h.getD 8 0:=by rw[ce _ _ _ ω,ce _ _ _ ω];simp
 have q1:((h.drop 5).drop 4).take 2=(h.drop 9).take 2:=by rw[kP]
 have q2:((h.drop 5).drop 6).take 2=(h.drop 11).take 2:=by rw[kP]
 have q3:((h.drop 5).drop 8).take 4=(h.drop 13).take 4:=by rw[kP]
 have Z:=ad (λB W (d:aw W 247 B w.heap.size (h.drop 5) 0 0) (m:w.heap.size<=W.heap.size)=>uP B w.heap.size 0 (h.drop 5) W d ω ω m);have aa:=ad (λB W (d:aw W 247 B w.heap.size (h.drop 5) 1 0) (m:w.heap.size<=W.heap.size)=>uP B w.heap.size 1 (h.drop 5) W d ω ω m);have ab:=ad (λB W (d:aw W 247 B w.heap.size (h.drop 5) 2 0) (m:w.heap.size<=W.heap.size)=>uP B w.heap.size 2 (h.drop 5) W d ω ω m);have ac:=ad (λB W (d:aw W 247 B w.heap.size (h.drop 5) 3 0) (m:w.heap.size<=W.heap.size)=>uP B w.heap.size 3 (h.drop 5) W d ω ω m);have ah:=ad (λB W (d:aw W 247 B w.heap.size (h.drop 5) 4 0) (m:w.heap.size<=W.heap.size)=>uO B w.heap.size 4 2 (h.drop 5) W d ω ω ω ω m);have ai:=ad (λB W (d:aw W 247 B w.heap.size (h.drop 5) 6 0) (m:w.heap.size<=W.heap.size)=>uO B w.heap.size 6 2 (h.drop 5) W d ω ω ω ω m);have aj:=ad (λB W (d:aw W 247 B w.heap.size (h.drop 5) 8 0) (m:w.heap.size<=W.heap.size)=>uO B w.heap.size 8 4 (h.drop 5) W d ω ω ω ω m);rw[g0]at Z;rw[g1]at aa;rw[g2]at ab;rw[g3]at ac;rw[q1]at ah;rw[q2]at ai;rw[q3]at aj;have HO:=ad (λW=>show Calls prog 16 #[.int .i64 3,fg (bM h)] W λe w'=>e=.returned (.int .i64 (me (bM h)))/\Fr W w' from Fj (bM h) W);have bs:Hid (fg (bM h)=.agg #[N (cd ((h.drop 11).take 2)),.bool (decide ((h.getD 5 0).toNat=1)),N (h.getD 6 0).toNat,N (h.getD 7 0).toNat,N (h.getD 8 0).toNat,N (cd ((h.drop 9).take 2))]):=rfl;have c7:Hid (∀xv,mU (ie h) (hP h) (fZ h) (hD h) (hQ h) (hC h) (hN h) xv=mU (cd ((h.drop 11).take 2)) (decide ((h.getD 5 0).toNat=1)) (h.getD 6 0).toNat (h.getD 7 0).toNat (h.getD 8 0).toNat (cd ((h.drop 9).take 2)) (cd ((h.drop 13).take 4)) xv):=λ_=>rfl;have al:Hid (hX h=(h.getD 5 0).toNat):=rfl;rw[bs.out]at HO;have b1:=iH (h.getD 5 0);have b2:=iH (h.getD 6 0);have b3:=iH (h.getD 7 0);have b4:=iH (h.getD 8 0);have c1:cd ((h.drop 9).take 2)<256^2:=by have:=lJ ((h.drop 9).take 2);rw[aP,bn,D]at this;exact this
 have c2:cd ((h.drop 11).take 2)<256^2:=by have:=lJ ((h.drop 11).take 2);rw[aP,bn,D]at this;exact this
 have c3:cd ((h.drop 13).take 4)<256^4:=by have:=lJ ((h.drop 13).take 4);rw[aP,bn,D]at this;exact this
 rw[show(256:Nat)^2=65536 from by decide]at c1 c2;rw[show(256:Nat)^4=4294967296 from by decide]at c3;clear g0 g1 g2 g3 q1 q2 q3 V Y c6 D bs;generalize h.drop 5=l5,(h.getD 8 0).toNat=xq,(h.getD 7 0).toNat=xd,(h.getD 6 0).toNat=xb,(h.getD 5 0).toNat=x,cd ((h.drop 13).take 4)=fN,cd ((h.drop 11).take 2)=fS,cd ((h.drop 9).take 2)=fC,me (bM h)=OE at *;have w1:IntKind.i64.wrap (xb:Int)=(xb:Int):=dS _ ω;have w2:IntKind.i64.wrap (xd:Int)=(xd:Int):=dS _ ω;have w3:IntKind.i64.wrap (xq:Int)=(xq:Int):=dS _ ω;have w4:IntKind.i64.wrap (fC:Int)=(fC:Int):=dS _ ω;have w5:IntKind.i64.wrap (fS:Int)=(fS:Int):=dS _ ω;have w6:IntKind.i64.wrap (fN:Int)=(fN:Int):=dS _ ω;have e5:((x:Int) == 1)=decide (x=1):=by rw[show((x:Int) == 1)=decide ((x:Int)=1)from rfl];exact decide_eq_decide.2 ⟨λh=>by omega,λh=>by omega⟩
 generalize decide (x=1)=p at *;go_in;go_wp2_with fail;apply bc.z;rintro e W1 ⟨B,rfl,bu,K,e7⟩;have bv:=ad (Z.out B W1 bu K.size);go_wp2_with fail;apply bv.z;rintro e q ⟨rfl,am,bx⟩;have ap:Fr w q:=ag.below K bx K.size (xA ω);have e8:B<q.heap.size:=by obtain⟨⟨v,h1,_⟩,_⟩:=am;exact(aX.1 h1).1
 go_wp2_with fail;have av:Fr q (q.alloc (.cells #[.int .i64 0,.bool p,.int .i64 0,.int .i64 0,.int .i64 0,.int .i64 0,.int .i64 0,.int .u8 (x:Int)] 60)):=(Fr.refl q).alloc _;have b0:=aD q (.cells #[.int .i64 0,.bool p,.int .i64 0,.int .i64 0,.int .i64 0,.int .i64 0,.int .i64 0,.int .u8 (x:Int)] 60) q.heap.size rfl;generalize q.alloc (.cells #[.int .i64 0,.bool p,.int .i64 0,.int .i64 0,.int .i64 0,.int .i64 0,.int .i64 0,.int .u8 (x:Int)] 60)=W3 at *;have cF:w.heap.size<=q.heap.size:=ap.size;generalize q.heap.size=g at *;have L:=ap.trans av;have b5:=am.fr av;have b6:=ad (aa.out B W3 b5 L.size);clear bv bc bu am K ap bx av Z aa;apply b6.z;rintro e W4 ⟨rfl,b9,az⟩;have M:Fr w W4:=ag.below L az L.size (xA ω);have bC:=az.heap b0 ω;have bG:=ad (ab.out B W4 b9 M.size);clear b6 ab b5 L az b0;go_wp2_with fail;apply bG.z;rintro e W5 ⟨rfl,bR,a1⟩;have O:Fr w W5:=ag.below M a1 M.size (xA ω);have bS:=a1.heap bC ω;have bT:=ad (ac.out B W5 bR O.size);clear bG ac b9 M a1 bC;go_wp2_with fail;apply bT.z;rintro e F ⟨rfl,ca,a2⟩;have a3:Fr w F:=ag.below O a2 O.size (xA ω);have z:=a2.heap bS ω;clear bT bR O a2 bS;have d2:=af z 2 rfl;have d3:=af z 3 rfl;have d4:=af z 4 rfl;have z2:=aB z 2;have z3:=aB z 3;have z4:=aB z 4;go_wp2_with fail;have cb:=aI (aI (aI z 2 (.int .i64 (xb:Int))) 3 (.int .i64 (xd:Int))) 4 (.int .i64 (xq:Int));have cc:(((F.setCell ⟨g,2,none⟩ (.int .i64 (xb:Int))).setCell ⟨g,3,none⟩ (.int .i64 (xd:Int))).setCell ⟨g,4,none⟩ (.int .i64 (xq:Int))).heap[g]?=some (.cells #[.int .i64 0,.bool p,N xb,N xd,N xq,.int .i64 0,.int .i64 0,.int .u8 (x:Int)] 60 (0,0)):=by simpa using cb
 have a4:ag (λk=>k=g) F (((F.setCell ⟨g,2,none⟩ (.int .i64 (xb:Int))).setCell ⟨g,3,none⟩ (.int .i64 (xd:Int))).setCell ⟨g,4,none⟩ (.int .i64 (xq:Int))):=
  ((ay F ⟨g,2,none⟩ _).trans (ay _ ⟨g,3,none⟩ _) (λ_ _ e=>e)).trans (ay _ ⟨g,4,none⟩ _) (λ_ _ e=>e)
 have J:B≠g:=ω
 have cf:=ca.box z δ J a4;have Q:Fr w (((F.setCell ⟨g,2,none⟩ (.int .i64 (xb:Int))).setCell ⟨g,3,none⟩ (.int .i64 (xd:Int))).setCell ⟨g,4,none⟩ (.int .i64 (xq:Int))):=ag.below a3 a4 a3.size (xA ω);clear cb a4 ca a3 z d2 d3 d4 z2 z3 z4;generalize ((F.setCell ⟨g,2,none⟩ (.int .i64 (xb:Int))).setCell ⟨g,3,none⟩ (.int .i64 (xd:Int))).setCell ⟨g,4,none⟩ (.int .i64 (xq:Int))=W7 at *;have ch:=ad (ah.out B W7 cf Q.size);apply ch.z;rintro e W8 ⟨rfl,cj,a5⟩;have R:Fr w W8:=ag.below Q a5 Q.size (xA ω);have ck:=a5.heap cc (λe=>J e.symm);have cl:=ad (ai.out B W8 cj R.size);clear ch ah cf Q a5 cc;go_wp2_with fail;apply cl.z;rintro e G ⟨rfl,cm,a6⟩;have a7:Fr w G:=ag.below R a6 R.size (xA ω);have I:=a6.heap ck (λe=>J e.symm);clear cl ai cj R a6 ck;have d5:=af I 5 rfl;have d0:=af I 0 rfl;have z5:=aB I 5;have z0:=aB I 0;go_wp2_with fail;have cn:=aI (aI I 5 (.int .i64 (fC:Int))) 0 (.int .i64 (fS:Int));have cp:((G.setCell ⟨g,5,none⟩ (.int .i64 (fC:Int))).setCell ⟨g,0,none⟩ (.int .i64 (fS:Int))).heap[g]?=some (.cells #[N fS,.bool p,N xb,N xd,N xq,N fC,.int .i64 0,.int .u8 (x:Int)] 60 (0,0)):=by simpa using cn
 have a8:ag (λk=>k=g) G ((G.setCell ⟨g,5,none⟩ (.int .i64 (fC:Int))).setCell ⟨g,0,none⟩ (.int .i64 (fS:Int))):=
  (ay G ⟨g,5,none⟩ _).trans (ay _ ⟨g,0,none⟩ _) (λ_ _ e=>e)
 have cq:=cm.box I δ J a8;have U:Fr w ((G.setCell ⟨g,5,none⟩ (.int .i64 (fC:Int))).setCell ⟨g,0,none⟩ (.int .i64 (fS:Int))):=ag.below a7 a8 a7.size (xA ω);clear cn a8 cm a7 I d0 d5 z0 z5;generalize (G.setCell ⟨g,5,none⟩ (.int .i64 (fC:Int))).setCell ⟨g,0,none⟩ (.int .i64 (fS:Int))=Wa at *;have cr:=ad (aj.out B Wa cq U.size);apply cr.z;rintro e o ⟨rfl,dv,a9⟩;have cs:Fr w o:=ag.below U a9 U.size (xA ω);have aC:=a9.heap cp (λe=>J e.symm);clear cr aj cq U a9 cp dv;have e6:=af aC 6 rfl;have z6:=aB aC 6;have ct:=aI aC 6 (.int .i64 (fN:Int));have A:(o.setCell ⟨g,6,none⟩ (.int .i64 (fN:Int))).heap[g]?=some (.cells #[N fS,.bool p,N xb,N xd,N xq,N fC,N fN,.int .u8 (x:Int)] 60 (0,0)):=by simpa using ct
 have cu:Fr w (o.setCell ⟨g,6,none⟩ (.int .i64 (fN:Int))):=ag.below cs (ay o ⟨g,6,none⟩ _) cs.size (xA ω);clear ct;have u0:(o.setCell ⟨g,6,none⟩ (.int .i64 (fN:Int))).cell? ⟨g,0,none⟩=some (N fS):=by rw[aG A];rfl
 have u1:(o.setCell ⟨g,6,none⟩ (.int .i64 (fN:Int))).cell? ⟨g,1,none⟩=some (.bool p):=by rw[aG A];rfl
 have u2:(o.setCell ⟨g,6,none⟩ (.int .i64 (fN:Int))).cell? ⟨g,2,none⟩=some (N xb):=by rw[aG A];rfl
 have u3:(o.setCell ⟨g,6,none⟩ (.int .i64 (fN:Int))).cell? ⟨g,3,none⟩=some (N xd):=by rw[aG A];rfl
 have u4:(o.setCell ⟨g,6,none⟩ (.int .i64 (fN:Int))).cell? ⟨g,4,none⟩=some (N xq):=by rw[aG A];rfl
 have u5:(o.setCell ⟨g,6,none⟩ (.int .i64 (fN:Int))).cell? ⟨g,5,none⟩=some (N fC):=by rw[aG A];rfl
 have u7:(o.setCell ⟨g,6,none⟩ (.int .i64 (fN:Int))).cell? ⟨g,7,none⟩=some (.int .u8 (x:Int)):=by rw[aG A];rfl
 by_cases hx:1<x;·have i1:(1:Int)<x:=ω;have bb:=ad (show 1<hX h by rw[al.out];exact hx);clear hx HO;go_wp2;go_ret2;exact⟨cu,.inl ⟨bb.out,rfl⟩⟩
 ·have i1:¬(1:Int)<x:=ω;have bb:=ad (show hX h<=1 by rw[al.out];omega);have dE:=ad A;clear hx A;go_wp2_with fail;refine(HO.out _).mono ?_;rintro e Wd ⟨rfl,cv⟩;have dT:=cv.heap dE.out;have eb:=cu.trans cv;go_wp2;go_ret2;refine⟨eb,.inr ⟨bb.out,g,rfl,cF,?_⟩⟩;rw[c7.out,al.out];exact dT
def CM:Op:=.load 22 (.tmp 80)
attribute [local go_sem] CM
attribute [local go_sem] sE
structure yX (w0:World) (H B base k m c c4:Nat) (ov:Value) (out:U0) (bv0:Value) (bad:List Nat) (n:Nat) (vs:Value) (l:U0) (M:Nat) (pre:List (Fin M)) (W:World) (pv gv bv:Value) (ps:List Hd):Prop where
 h0:W.heap[H]?=some (.cells #[.pointer (some ⟨B,0,none⟩)] 173 (0,0))
 h1:W.heap[H+1]?=some (.cells #[pv] 42 (0,0))
 h2:W.heap[H+1+1]?=some (.cells #[gv] 72 (0,0))
 h3:W.heap[H+1+1+1]?=some (.cells #[vs] 22 (0,0))
 h4:W.heap[H+1+1+1+1]?=some (.cells #[N c4] 3 (0,0))
 R:je W B base k m c ov out bv (bad++fj (pre.map λj=>bQ (bZ l c 0 j.val)) n) (n+pre.length)
 oP:Ow W (H+1+1+1+1+1) aS pv ps
 oR:cg W (H+1+1+1+1+1) eB ps (pre.map λj=>aY (bZ l c 0 j.val))
 oG:Ow W (H+1+1+1+1+1) eO gv (pre.map λj=>bQ (bZ l c 0 j.val))
 ch:ag (λq=>q=B\/bv0.ownBlock=some q) w0 W
 fb:∀b,bv.ownBlock=some b->bv0.ownBlock=some b\/H+1+1+1+1+1<=b
def EM(d:World)(H B base k m c e:Nat)(f:Value)(h:U0)(o:Value)(p:List Nat)(n:Nat)(q:Value)(l:U0)(M:Nat)(z:List (Fin M))(W:World):Prop:=
 ∃A D F G,yX d H B base k m c e f h o p n q l M z W A D F G
def yX.own(F:World)(H B base k m c J:Nat)(K:Value)(L:U0)(O:Value)(Q:List Nat)(n:Nat)(R:Value)(l:U0)(M D:Nat)(hD:F.heap.size<=D):OwnFrom D (EM F H B base k m c J K L O Q n R l M):=by
 rintro s W U ab ⟨V,X,Y,Z,h⟩ d z;have f:∀ {q:Nat} {o:Obj},W.heap[q]?=some o->o.isCells=true->U.heap[q]?=some o:=λ{q o} A ho=>by
  rw [d.block q (aX.1 A).1 (fun e => by
    obtain ⟨_, o', G, I⟩ := z q e.symm
    rw[A] at G; cases G; rw[ho] at I; cases I)]
  exact A
 have p:=λr e=>(z r e).2
 exact ⟨V, X, Y, Z, f h.h0 rfl, f h.h1 rfl, f h.h2 rfl, f h.h3 rfl, f h.h4 rfl, ⟨f h.R.h rfl, lF h.R.o d p, lF h.R.b d p⟩, lF h.oP d p, ⟨h.oR.1, fun t a b => lF (h.oR.2 t a b) d p⟩, lF h.oG d p,
   h.ch.trans (lK d) (λi hi e => by have := (z i e).1; omega), h.fb⟩
abbrev Ia(B c o d:Nat)(e:Option Addr)(h H:Nat)(m:Value):Act:=
 { tmps:=#[.pointer (some ⟨B,0,none⟩),.slice e d h,.pointer (some ⟨H,0,none⟩),undef,.int .i64 0,.pointer (some ⟨H+1,0,none⟩),.pointer (some ⟨H+1+1,0,none⟩),m,undef,undef,undef,undef,undef,undef,.slice e d h,.pointer (some ⟨B,0,none⟩),.pointer (some ⟨B,0,none⟩),.pointer (some ⟨B,0,none⟩),.pointer (some ⟨B,2,none⟩),N c,N o,.func (.func 109) #[] #[.pointer (some ⟨H+1+1+1,0,none⟩),.pointer (some ⟨H+1+1+1+1,0,none⟩)],m,undef,undef,undef,undef,undef,undef,undef,undef,undef,undef,undef,undef,undef,undef,undef,undef,undef,undef,undef,undef,undef,undef,undef,undef,undef,undef,undef,undef,undef,undef,undef,undef,undef,undef,undef,undef,undef,undef,undef,undef,undef,undef,undef,undef,undef,undef,undef,undef,undef,undef,undef,undef,undef,undef,undef,undef,undef,undef,undef,undef,undef,undef,undef,undef,undef,undef,undef,undef,undef,undef],defers:=[] }
def je.put{w:World}{B base k m c n D:Nat}{p q:Value}{z:U0}{A:List Nat}{o F:Obj}(h:je w B base k m c p z q A n)(d:w.heap[D]?=some o)(G:o.isCells=false):je (w.putObj D F) B base k m c p z q A n:=by
 have f:=sA w D F;have I:∀r,some D=some r->∃o:Obj,w.heap[r]?=some o/\o.isCells=false:=λr e=>by cases e;exact⟨_,d,G⟩
 refine⟨?_,lF h.o f I,lF h.b f I⟩;rw[f.block B (aX.1 h.h).1 (λe=>by cases e;rw[h.h]at d;cases d;cases G)];exact h.h
def Nw{G:Nat->Prop}{B:Nat}{w W:World}(h:ag G w W)(d:B<=w.heap.size)(e:∀i,G i->B<=i):Below B w W:=ag.below (Below.refl B w) h d e
def Hy(B base k m c n:Nat)(ov bv v:Value)(L l:U0)(al:List Nat)(w:World)(hR:je w B base k m c ov L bv al n)(hs:∀W,Below base w W->ao W eB v l)(hL:l.length=(k+m)*(c+4))(hl:l.length<=1000000)(qv:c<=4096)(hk:1<=k)(ic:k+m<=255)(qx:1<=c)(hn:n<=30000000)(q0:al.length<=30000000)(q1:L.length<=20000000)(hb:base<=w.heap.size)(q2:base<=B)(ht:∀W,Below base w W->dm W):Calls prog 120 #[.pointer (some ⟨B,0,none⟩),v] w λe w'=>e=.returned (.int .i64 (g9 k m c l 0).1)/\((g9 k m c l 0).1=0->∃my a7,je w' B base k m c my (L++(g9 k m c l 0).2.flatten) a7 (al++lg l c 0 (k+m) n) (n+(k+m)))/\ag (λq=>q=B\/ov.ownBlock=some q\/bv.ownBlock=some q) w w':=by
 obtain⟨a0,a5,rfl,q3,q4,m5⟩:=(hs w (Below.refl _ _)).shape;have HS:=ad hs;have m6:=ad ht;have q5:c+4<=1000000:=by have:1*(c+4)<=(k+m)*(c+4):=cY _ ω;omega
 obtain⟨d,da⟩:∃d,d=c+4:=⟨_,rfl⟩;have q6:1<=d:=ω
 have q7:d<=1000000:=ω
 have m8:=ad (λ(i:Nat)=>show(l.drop (i*d)).take d=bZ l c 0 i from by unfold bZ;rw[da,jZ]);have q8:IntKind.i64.wrap ((c:Int)+4)=(d:Int):=by rw[aA _ ω];omega
 have m9:=ad (λW=>Eg a0 l.length a5 d ω W);have mK:B<w.heap.size:=(aX.1 hR.h).1;have fD:∀q,bv.ownBlock=some q->base<=q/\q<w.heap.size:=hR.b.lt;have i0:bK l.length d=k+m:=by rw[hL,<- da];exact Nk (k+m) d ω
 have e1:∃A1,A1=w.alloc (.cells #[.pointer (some ⟨B,0,none⟩)] 173):=⟨_,rfl⟩;have fE:Fr w (((w.alloc (.cells #[.pointer (some ⟨B,0,none⟩)] 173)).alloc (.cells #[.slice none 0 0] 42)).alloc (.cells #[.slice none 0 0] 72)):=(((Fr.refl w).alloc _).alloc _).alloc _;have k0:(((w.alloc (.cells #[.pointer (some ⟨B,0,none⟩)] 173)).alloc (.cells #[.slice none 0 0] 42)).alloc (.cells #[.slice none 0 0] 72)).heap[w.heap.size]?=some (.cells #[.pointer (some ⟨B,0,none⟩)] 173 (0,0)):=by rw[gn _ _ _ (by rw[gu,gu];omega),gn _ _ _ (by rw[gu];omega)];exact aD _ _ _ rfl
 have k1:(((w.alloc (.cells #[.pointer (some ⟨B,0,none⟩)] 173)).alloc (.cells #[.slice none 0 0] 42)).alloc (.cells #[.slice none 0 0] 72)).heap[w.heap.size+1]?=some (.cells #[.slice none 0 0] 42 (0,0)):=by rw[gn _ _ _ (by rw[gu,gu];omega)];exact aD _ _ _ (gu _ _).symm
 have k2:(((w.alloc (.cells #[.pointer (some ⟨B,0,none⟩)] 173)).alloc (.cells #[.slice none 0 0] 42)).alloc (.cells #[.slice none 0 0] 72)).heap[w.heap.size+1+1]?=some (.cells #[.slice none 0 0] 72 (0,0)):=
  aD _ _ _ (by rw[gu,gu])
 have fP:(((w.alloc (.cells #[.pointer (some ⟨B,0,none⟩)] 173)).alloc (.cells #[.slice none 0 0] 42)).alloc (.cells #[.slice none 0 0] 72)).heap.size=w.heap.size+1+1+1:=by rw[gu,gu,gu]
 have cB:(((w.alloc (.cells #[.pointer (some ⟨B,0,none⟩)] 173)).alloc (.cells #[.slice none 0 0] 42)).alloc (.cells #[.slice none 0 0] 72)).cell? ⟨w.heap.size,0,none⟩=some (.pointer (some ⟨B,0,none⟩)):=by rw[aG k0];rfl
 have c2:(((w.alloc (.cells #[.pointer (some ⟨B,0,none⟩)] 173)).alloc (.cells #[.slice none 0 0] 42)).alloc (.cells #[.slice none 0 0] 72)).cell? ⟨B,2,none⟩=some (N c):=by rw[aG (fE.heap hR.h)];rfl
 refine(lh (n:=9)).1 ?_;refine callsIn_of_wp_marks func120 rfl trivial ?_ rfl;simp only[ntmps120,lO,gF,jG,Nat.reduceAdd,Nat.reduceSub,qY,qX,qM,qS,jl,lR];have q9:Fence.wide.fn 51:=trivial;have HR:=ad hR;have HL:=ad hL;have nf:=ad da;have cc:=ad i0;clear e1 hR hs ht m5 da hL i0;gi_wp2_with (gi_at_call 51;refine(lh.2 (m9.out _)).mono ?_;rintro e w3 ⟨rfl,rfl⟩);clear cB c2;generalize ((w.alloc (.cells #[.pointer (some ⟨B,0,none⟩)] 173)).alloc (.cells #[.slice none 0 0] 42)).alloc (.cells #[.slice none 0 0] 72)=A3 at *;have cf:Fr A3 (A3.alloc (.cells #[.slice a0 l.length a5] 22)):=(Fr.refl A3).alloc _;have fS:(A3.alloc (.cells #[.slice a0 l.length a5] 22)).heap.size=w.heap.size+1+1+1+1:=by rw[gu,fP]
 have R:=aD A3 (.cells #[.slice a0 l.length a5] 22) (w.heap.size+1+1+1) fP.symm;generalize A3.alloc (.cells #[.slice a0 l.length a5] 22)=A4 at *;have b7:Fr A4 (A4.alloc (.cells #[N d] 3)):=(Fr.refl A4).alloc _;have db:(A4.alloc (.cells #[N d] 3)).heap.size=w.heap.size+1+1+1+1+1:=by rw[gu,fS]
 have g4:=aD A4 (.cells #[N d] 3) (w.heap.size+1+1+1+1) fS.symm;generalize A4.alloc (.cells #[N d] 3)=A5 at *;have J:Fr w A5:=fE.trans (cf.trans b7);have j0:=b7.heap (cf.heap k0);have j1:=b7.heap (cf.heap k1);have j2:=b7.heap (cf.heap k2);have j3:=b7.heap R;clear k0 k1 k2 R fE cf b7 fP fS;obtain⟨H,hH⟩:∃H,H=w.heap.size:=⟨_,rfl⟩;have HH:=ad hH;rw[<- hH]at j0 j1 j2 j3 g4 db mK fD hb ⊢;have rb:H<A5.heap.size:=ω
 clear hH;obtain⟨cb,nk,i6,g0⟩:=Nt (H+1+1+1) (H+1+1+1+1) (.slice a0 l.length a5) l d ω ω ω A5 j3 g4 (HS.out _ (Below.mono (show Below w.heap.size w A5 from J) (by rw[<- HH.out];exact hb)));have HX:=ad (λW (h:Below base w W) j hj=>Ns (show 1<=d by omega) (HS.out W h) i6 j hj)
 have h0:EM w H B base k m c d ov L bv al n (.slice a0 l.length a5) l (bK l.length d) [] A5:=
  ⟨_,_,bv,[],j0,j1,j2,j3,g4,by simpa [fj] using HR.out.fr J,Ow.nil,⟨rfl,λt a=>by simp at a⟩,Ow.nil,J.chg _,λb hb=>.inl hb⟩
 clear j0 j1 j2 j3 g4 i6
 refine wpIn_rangeFunc_ownF rfl ω (gf:=109) (lb:=#[.pointer (some ⟨H+1+1+1,0,none⟩),.pointer (some ⟨H+1+1+1+1,0,none⟩)]) rfl trivial (enters_of func109 (by kernel_rfl) rfl) (g0 _ ω) (λh k=>el.trans h k) (el.put ω ω) (Below.refl _ A5) (λ_=>rfl)
  _ (λ_ _ _=>False) (yX.own w H B base k m c d ov L bv al n (.slice a0 l.length a5) l _ A5.heap.size J.size) (λ_ _ _ _ _ hs _ _=>hs) h0 (λx=>Ia B c d l.length a0 a5 H (kB cb nk l.length d x.val).v) ?assign ?body ?done ?stop
 case assign=>intro l x W K hK;gi_wp2;exact hK
 case body=>
  clear h0 g0;rintro lr I x W ⟨pv,gv,a7,X,hI⟩ hc;have i8 : Below base w W := Nw hI.ch (by rw [← HH.out]; exact hb) (fun i e => by
    rcases e with e | e;·omega
    · exact (fD i e).1)
  have hd:=HX.out W i8 x.val x.isLt;have nn:=m6.out W i8;have nr:x.val<k+m:=(by have:=x.isLt;have:=cc.out;omega);have rc:I.length<k+m:=(by have:=cc.out;omega);have jn:=m8.out x.val;have ns:=tr x.val (k+m) c nr;have he:(bZ l c 0 x.val).length=c+4:=yx l c 0 x.val (by have:=HL.out;omega);rw[jn]at hd;have hh:H+1+1+1+1+1<=W.heap.size:=(aX.1 hI.h4).1;have hm:(al++fj (I.map λj=>bQ (bZ l c 0 j.val)) n).length<=40000000:=(by have:=sk (I.map λj=>bQ (bZ l c 0 j.val)) n;rw[fw]at this;rw[aM];omega);have jv:=ad (J6 B base k m c (n+I.length) ov a7 _ L _ _ W hI.R hd (by rw[he];omega) (by rw[he];have:=nf.out;omega) ω hm ω nn);have c0:W.cell? ⟨H,0,none⟩=some (.pointer (some ⟨B,0,none⟩)):=(by rw[aG hI.h0];rfl);obtain⟨pa,pc,nv⟩:=hI.oP.shape';obtain⟨ga,gc,j4⟩:=hI.oG.shape';subst nv;rw[fw]at j4;subst j4;have F:=ad hI;have nw:=ad (yL (I.map λj=>bQ (bZ l c 0 j.val)) (bQ (bZ l c 0 x.val)) n);have j5:(al++fj (I.map (λj=>bQ (bZ l c 0 j.val))++[bQ (bZ l c 0 x.val)]) n)=(if bQ (bZ l c 0 x.val)then al++fj (I.map λj=>bQ (bZ l c 0 j.val)) n else(al++fj (I.map λj=>bQ (bZ l c 0 j.val)) n)++[n+I.length]):=by
   rw[nw.out,fw];cases bQ (bZ l c 0 x.val);·simp
   ·simp
  have n0:=ad j5;have re:(I.map λj=>bQ (bZ l c 0 j.val)).length=I.length:=fw _;have j6:(I++[x]).map (λj=>bQ (bZ l c 0 j.val))=I.map (λj=>bQ (bZ l c 0 j.val))++[bQ (bZ l c 0 x.val)]:=(by rw[gq];rfl);have j7:(I++[x]).map (λj=>aY (bZ l c 0 j.val))=I.map (λj=>aY (bZ l c 0 j.val))++[aY (bZ l c 0 x.val)]:=(by rw[gq];rfl);have HM:=ad (And.intro j6 j7);have bl:X.length=I.length:=(by have:=hI.oR.1;rw[fw]at this;exact this);have a2:=ad bl;clear bl;clear j5 j6 j7 hd he ns jn hI;have ri:=hm;clear hm;generalize (al++fj (I.map λj=>bQ (bZ l c 0 j.val)) n)=bd at *;have rl:Fence.wide.fn 179:=trivial;generalize aY (bZ l c 0 x.val)=cu,bQ (bZ l c 0 x.val)=ok at *
  gi_wp2_with (first
    | (gi_at_call 179; refine (CallsIn.inRound lr (lh.2 jv.out)).mono ?_; rintro e w5 ⟨u, rfl, bC, n2, hy, Z, n3⟩; obtain ⟨ua, uc, hu⟩ := bC.shape'; subst hu
       have m1 := ky F.out.h1 ω F.out.R.b δ Z
       have d1 := af m1 0 rfl
       have U := lG F.out.oP F.out.R.h δ F.out.R.b δ Z
       have db : H + 1 + 1 + 1 + 1 + 1 ≤ w5.heap.size := ar hh Z.size)
    | (gi_at_builtin; refine vB aS rfl (.tmp 29) (.tmp 31) 42 rfl uAE (H + 1 + 1 + 1 + 1 + 1) rfl U [⟨ua, cu.length, uc⟩] _ _ _ rfl rfl rfl (by have := a2.out; simp; omega) db ?_))
  intro v6 O dv;obtain⟨ab,ac,ck⟩:=dv.own.shape';rw[aM,mD]at ck;subst ck;have m0:=ky F.out.h0 ω F.out.R.b δ Z;have m2:=ky F.out.h2 ω F.out.R.b δ Z;have m3:=ky F.out.h3 ω F.out.R.b δ Z
  have m4 := Z.heap F.out.h4 (by rintro (e | e); · omega
                                 · rcases F.out.fb _ e with h | h
                                   · have := (fD _ h).2; omega
                                   · omega)
  have kk:=wS F.out.oR F.out.R.h δ F.out.R.b δ Z;have kl:=lG F.out.oG F.out.R.h δ F.out.R.b δ Z;obtain⟨b1,b2,V,b4⟩:=En m1 U δ dv;have x1:=ky m0 ω U δ V;have x2:=ky m2 ω U δ V
  have x3 := V.heap m3 (by rintro (e | e); · omega
                           · have := (U.lt _ e).1; omega)
  have x4:=ky m4 (by omega) U (by decide) V;have x5:=ky hy.h (by omega) U (by decide) V;have x6:=lG hy.o m1 (by decide) U (by decide) V;have x7:=lG hy.b m1 (by decide) U (by decide) V;have x8:=wS kk m1 (by decide) U (by decide) V;have Q:=lG kl m1 (by decide) U (by decide) V;have xu:=lG bC m1 (by decide) U (by decide) V;have z1:=dv.chg'.heap m1 (U.ne_cells m1 (by decide));have z3:=af z1 0 rfl;have z2:O.frozen? ⟨H+1,0,none⟩=false:=aB z1 0;have kn : KeepsOthers W (O.setCell ⟨H + 1, 0, none⟩ (.slice ab (X.length + 1) ac)) := (xP Z (fun k o ho e => by
    rcases e with e | e;·have hx := F.out.R.h; rw[← e, ho] at hx; cases hx; rfl
    · exact tK F.out.R.b e ho)).trans (xP V (λk o ho e => by
    rcases e with e | e;·have hx := m1; rw[← e, ho] at hx; cases hx; rfl
    · exact tK U e ho))
  have kq:ag (λq=>q=B\/bv.ownBlock=some q) w (O.setCell ⟨H+1,0,none⟩ (.slice ab (X.length+1) ac)):=
   (F.out.ch.trans Z (fun i hi e => by
     rcases e with e | e
     · exact .inl e
     · rcases F.out.fb _ e with h | h
       · exact .inr h
       · have := HH.out; omega)).trans V (λi hi e => by
     have := HH.out
     rcases e with e | e
     · omega
     · have := (U.lt _ e).1; omega)
  have n8:=ad kn;have nB:=ad kq;have r1:(O.setCell ⟨H+1,0,none⟩ (.slice ab (X.length+1) ac)).cell? ⟨H+1+1,0,none⟩=some (.slice ga I.length gc):=(by rw [aG x2];rfl);have nF:H+1+1+1+1+1<=(O.setCell ⟨H+1,0,none⟩ (.slice ab (X.length+1) ac)).heap.size:=ar db V.size;have r2:I.length<=255:=(by omega);have nL:Hid ((O.setCell ⟨H+1,0,none⟩ (.slice ab (X.length+1) ac)).heap.size=O.heap.size):=(by show _=_;simp [World.setCell]);clear kn kq dv m0 m1 m2 m3 m4 U kk kl V Z jv bC;have nO:=ad (And.intro b1 (And.intro b2 (And.intro b4 (And.intro x1 (And.intro x3 (And.intro x4 (And.intro x5 (And.intro x6 (And.intro x7 (And.intro x8 xu))))))))));have c5:=ad (And.intro x2 Q);clear b1 b2 b4 x1 x2 x3 x4 x5 x6 x7 x8 Q xu;gi_wp2_with (gi_at_builtin;refine vB eO rfl (.tmp 33) (.tmp 35) 72 rfl uAJ (H+1+1+1+1+1) rfl c5.out.2 [ok] _ _ 1 rfl rfl (by rw [nL.out];rfl) (by simp;omega) nF ?_);intro v8 w8 dE;obtain⟨ob,od,ks⟩:=dE.own.shape';rw [aM,mD,fw]at ks;subst ks;have z4:=dE.chg'.heap c5.out.1 (c5.out.2.ne_cells c5.out.1 (by decide));have z5:=af z4 0 rfl;have z6:w8.frozen? ⟨H+1+1,0,none⟩=false:=aB z4 0;obtain⟨b1,b2,b4,x1,x3,x4,x5,x6,x7,x8,xu⟩:=nO.out;obtain⟨x2,Q⟩:=c5.out;obtain⟨g1,g2,R,g4⟩:=En x2 Q (by decide) dE;have y0:=ky x1 (by omega) Q (by decide) R;have y1:=ky b1 (by omega) Q (by decide) R;have y3:=ky x3 (by omega) Q (by decide) R;have y4:=ky x4 (by omega) Q (by decide) R;have y5:=ky x5 (by omega) Q (by decide) R;have y6:=lG x6 x2 (by decide) Q (by decide) R;have y7:=lG x7 x2 (by decide) Q (by decide) R;have yP:=lG b2 x2 (by decide) Q (by decide) R;have yR:=wS x8 x2 (by decide) Q (by decide) R;have yu:=lG xu x2 (by decide) Q (by decide) R;have k4 := n8.out.trans (xP R (fun k o ho e => by
    rcases e with e | e;·have hx := x2; rw[← e, ho] at hx; cases hx; rfl
    · exact tK Q e ho))
  have e0 : ag (fun q => q = B ∨ bv.ownBlock = some q) w (w8.setCell ⟨H + 1 + 1, 0, none⟩ (.slice ob (I.length + 1) od)) := nB.out.trans R (fun i hi e => by
      have := HH.out;rcases e with e | e;·omega
      · have := (Q.lt _ e).1; omega)
  have HG:=ad (And.intro g1 (And.intro g2 (And.intro y0 (And.intro y1 (And.intro y3 (And.intro y4 (And.intro y5 (And.intro y6 (And.intro y7 (And.intro yP (And.intro yR yu)))))))))));have k5:=ad (And.intro k4 e0);clear g1 g2 R g4 y0 y1 y3 y4 y5 y6 y7 yP yR yu k4 e0 b1 b2 b4 x1 x2 x3 x4 x5 x6 x7 x8 Q xu dE;gi_wp2;obtain⟨g1,g2,y0,y1,y3,y4,y5,y6,y7,yP,yR,yu⟩:=HG.out;refine⟨k5.out.1,⟨y3.trans F.out.h3.symm,y4.trans F.out.h4.symm⟩,_,_,n2,X++[⟨ua,cu.length,uc⟩],y0,y1,g1,y3,y4,?_,yP,?_,?_,k5.out.2,?_⟩;·rw[HM.out.1,n0.out,aM,mD,<- qJ];exact⟨y5,y6,y7⟩
  ·rw[HM.out.2];exact yR.snoc (yu.rebase hh)
  ·rw[HM.out.1];exact g2
  ·intro b hb;rcases n3 b hb with h | h;·exact F.out.fb b h
   ·exact .inr (ar hh h)
 case done=>
  clear h0 g0 HX;rintro D ys W hD rfl ⟨pv,gv,a7,X,hI⟩ hK;have e1:(List.finRange (bK l.length d)).map (λj:Fin (bK l.length d)=>bQ (bZ l c 0 j.val))=br l c 0 (k+m):=Dx (bK l.length d) (k+m) cc.out (λi=>bQ (bZ l c 0 i));have e2:(List.finRange (bK l.length d)).map (λj:Fin (bK l.length d)=>aY (bZ l c 0 j.val))=dA l c 0 (k+m):=Dx (bK l.length d) (k+m) cc.out (λi=>aY (bZ l c 0 i));have e3:(List.finRange (bK l.length d)).length=k+m:=(by rw[List.length_finRange];exact cc.out);obtain⟨h0,h1,h2,_,_,hR,oP,oR,oG,ch,fb⟩:=hI;rw[e1,e3]at hR;rw[e2]at oR;rw[e1]at oG;clear e1 e2 e3;have bm:=oR.sees2 oP.see;have bl:X.length=k+m:=(by rw[bm.2.1,pT]);have cC:(br l c 0 (k+m)).length=k+m:=mV _ _ _ _;have e4:=wO l c 0 (k+m) (by have:=HL.out;omega);have k9:=ad (λW' (z:Fr W W') h=>Qw k m c pv gv X (dA l c 0 (k+m)) (br l c 0 (k+m)) W' hk ic ((oR.fr z).sees2 (oP.fr z).see) (oG.fr z).see bl cC e4 h);have la:=ad (λW' (z:Fr W W') h=>Qv k m c pv gv X (dA l c 0 (k+m)) (br l c 0 (k+m)) W' hk ic ω ((oR.fr z).sees2 (oP.fr z).see) (oG.fr z).see bl cC e4 h);have lc:=ad (AE k m c l 0);have li:=ad (AD k m c l 0);have ll:=ad (AF k m c l 0);have ol:=ad (pe l c 0 (k+m) n);have hz:=tP k m c ((aN (br l c 0 (k+m))).take k) (dL ((aN (br l c 0 (k+m))).take k) (dA l c 0 (k+m)));have h3:(dA l c 0 (k+m)).length=k+m:=pT _ _ _ _;have ln:=ad (λ(bq:¬(aN (br l c 0 (k+m))).length<k)=>tQ k m c ((aN (br l c 0 (k+m))).take k) (dL ((aN (br l c 0 (k+m))).take k) (dA l c 0 (k+m))) (by rw[pf,aP];omega) (nX (br l c 0 (k+m)) (dA l c 0 (k+m)) c _ (λr hr=>kg hr) e4 (by rw[cC,h3])));have a2:=ad (And.intro bl (And.intro cC (And.intro hz h3)));clear bl cC e4 bm hz h3;generalize dA l c 0 (k+m)=PS,br l c 0 (k+m)=G,iZ k m c ((aN (br l c 0 (k+m))).take k) (dL ((aN (br l c 0 (k+m))).take k) (dA l c 0 (k+m)))=Y at *;obtain⟨M,e5⟩:∃M,M=k+m:=⟨_,rfl⟩;have bs:=ad e5;obtain⟨pa,pc,cE⟩:=oP.shape';obtain⟨ga,gc,cF⟩:=oG.shape';rw[a2.out.1,<- e5]at cE;rw[a2.out.2.1,<- e5]at cF;subst cE cF;clear e5;have r8:M<=255:=(by have:=bs.out;omega);have oo:k<=M:=(by have:=bs.out;omega);have h4:∀w9:World,ag (λq=>q=B\/ov.ownBlock=some q\/bv.ownBlock=some q) w w9->ag (λq=>q=B\/ov.ownBlock=some q\/bv.ownBlock=some q) w (w9.putObj D (.deferred none)):=λw9 h=>h.trans (lK (sA w9 D _)) (λi hi e=>by cases e;have:=J.size;omega);have h5:ag (λq=>q=B\/ov.ownBlock=some q\/bv.ownBlock=some q) w W:=ch.mono (λi _ e=>e.elim .inl (λh=>.inr (.inr h)));have c0:=af h0 0 rfl;have c1:=af h1 0 rfl;have c2:=af h2 0 rfl;have d0:W.cell? ⟨B,0,none⟩=some (N k):=(by rw[aG hR.h];rfl);have d1:W.cell? ⟨B,1,none⟩=some (N m):=(by rw[aG hR.h];rfl);gi_step;gi_step;refine wpIn_wide.2 ?_;by_cases bq:(aN G).length<k
  ·have e8:=ad (k9.out W.drew (Fr.refl W).drew bq);go_upto_region 8 with fail
   go_region_held3 (λw' => w'.cell? ⟨H, 0, none⟩ = some (.pointer (some ⟨B, 0, none⟩)) ∧ w'.cell? ⟨H + 1, 0, none⟩ = some (.slice pa M pc) ∧ w'.cell? ⟨H + 1 + 1, 0, none⟩ = some (.slice ga M gc) ∧ w'.cell? ⟨B, 0, none⟩ = some (N k) ∧ w'.cell? ⟨B, 1, none⟩ = some (N m))
    (first | go_keep)
    ((go_at_call 180;refine e8.out.mono ?_;rintro e w1 ⟨rfl,aa⟩;have h8:=aa.cell c0;have h9:=aa.cell c1;have hA:=aa.cell c2;have hB:=aa.cell d0;have ls:=aa.cell d1))
   go_wp2_with fail;have a1:=(Fr.refl W).drew.trans aa;have cL:=h5.trans (a1.chg (λ_=>False)) (λi _ e=>e.elim);have oq:=a1.heap hK;refine⟨σ,.inl ⟨_,_,rfl,uQ oq,?_⟩⟩;refine⟨_,results_tmp rfl _ _ _,?_,?_,h4 _ cL⟩;·rw[lc.out bq];rfl
   ·rw[lc.out bq];intro h;cases h
  ·have or:k<=(aN G).length:=ω;have e8:=ad (la.out W.drew (Fr.refl W).drew or);go_upto_region 8 with fail
   go_region_held3 (λw' => w'.cell? ⟨H, 0, none⟩ = some (.pointer (some ⟨B, 0, none⟩)) ∧ w'.cell? ⟨H + 1, 0, none⟩ = some (.slice pa M pc) ∧ w'.cell? ⟨H + 1 + 1, 0, none⟩ = some (.slice ga M gc) ∧ w'.cell? ⟨B, 0, none⟩ = some (N k) ∧ w'.cell? ⟨B, 1, none⟩ = some (N m))
    (first | go_keep)
    ((go_at_call 180;refine e8.out.mono ?_;rintro e w1 ⟨v1,rfl,xs,hE,cN,aa⟩;obtain⟨na,nc,e9⟩:=hE.shape';subst e9;have h8:=aa.cell c0;have h9:=aa.cell c1;have hA:=aa.cell c2;have hB:=aa.cell d0;have ls:=aa.cell d1))
   have eC:xs.length=M:=(by rw[cN.1,a2.out.2.2.1];exact bs.out.symm);rw[eC];have lt:G.length=M:=(by rw[a2.out.2.1];exact bs.out.symm);have hc:X.length=M:=(by rw[a2.out.1];exact bs.out.symm);have lu:Y.length=M:=(by rw[a2.out.2.2.1];exact bs.out.symm);have lv:PS.length=M:=(by rw[a2.out.2.2.2];exact bs.out.symm);have ah:=ad (And.intro eC (And.intro lt (And.intro hc (And.intro lu lv))));have a1:=(Fr.refl W).drew.trans aa;have sN:=hE.see;rw[eC]at sN;have sG:=(oG.fr a1).see;have sP:=(oP.fr a1).see;have rP:=oR.fr a1;have lz:=hR.fr a1;have l0:=a1.heap hK;have ou:=a1.heap h0;have o1:∀q,ov.ownBlock=some q->base<=q/\q<H:=λq e=>(by have h:=HR.out.o.lt q e;have:=HH.out;exact⟨h.1,ω⟩);have cL:=h5.trans (a1.chg (λ_=>False)) (λi _ e=>e.elim);clear eC lt hc lu lv hE aa e8 la k9 c0 c1 c2 d0 d1 h0 h1 h2 hR oP oR oG ch hK a2 h5 a1;go_wp2;go_loopw [58] (λiv wr=>∃i:Nat,i<=M/\iv=N i/\(∀j,j<i->G.getD j false=true->Y.getD j []=PS.getD j [])/\Fr w1 wr) (λiv _=>M-(intOf iv).toNat);·exact⟨0,ax _,rfl,λj h=>absurd h (np j),Fr.refl _⟩
   ·
    obtain⟨i,hi,rfl,eL,z⟩:=hrel;have t1:=z.cell h9;have t2:=z.cell hA;by_cases bb:i<M
    ·obtain⟨nb,sc,se,e9,e1⟩:=(sN.fr z).cell1 Hd.v rfl i (by rw[ah.out.1];exact bb);obtain⟨gb,o6,sh,cF,e2⟩:=(sG.fr z).cell1 (λb=>.bool b) rfl i (by rw[ah.out.2.1];exact bb);obtain⟨pb,sr,ss,cE,e3⟩:=(sP.fr z).cell1 Hd.v rfl i (by rw[ah.out.2.2.1];exact bb);simp only[dt]at e9 cF cE;obtain⟨rfl,o7,rfl⟩:=e9;obtain⟨rfl,o8,rfl⟩:=cF;obtain⟨rfl,oC,rfl⟩:=cE;clear o7 o8 oC;have l1:i<xs.length:=(by rw[ah.out.1];exact bb);have cT:i<G.length:=(by rw[ah.out.2.1];exact bb);have l2:i<X.length:=(by rw[ah.out.2.2.1];exact bb);have fe:i<Y.length:=(by rw[ah.out.2.2.2.1];exact bb);have fh:i<PS.length:=(by rw[ah.out.2.2.2.2];exact bb);have HE:=ad (zp xs[i].v X[i].v (Y[i]'fe) (PS[i]'fh) wr ((cN.2 i l1 fe).see.fr z) ((rP.2 i l2 fh).see.fr z));have hU:=ad (ce G i false cT);have hV:=ad (ce Y i [] fe);have hW:=ad (ce PS i [] fh);have oL:=ad cT;have i1:(i:Int)<M:=ω;have i2:(0:Int)<=i:=ω;obtain⟨xh,l3⟩:∃x,x=xs[i]:=⟨_,rfl⟩;obtain⟨ph,l4⟩:∃x,x=X[i]:=⟨_,rfl⟩;obtain⟨gg,l5⟩:∃x:Bool,x=G[i]'cT:=⟨_,rfl⟩;obtain⟨nx,l6⟩:∃x,x=Y[i]:=⟨_,rfl⟩;obtain⟨sx,l7⟩:∃x,x=PS[i]:=⟨_,rfl⟩;rw[<- l3]at e1 HE;rw[<- l4]at e3 HE;have po:wr.cell? ⟨gb,o6+i,none⟩=some (.bool (G[i]'cT)):=e2;clear e2;rw[<- l5]at po hU;rw[<- l6]at HE hV;rw[<- l7]at HE hW;clear l3 l4 l5 l6 l7 l1 cT l2 fe fh sN sG sP cN rP;obtain⟨xa,xn,xc⟩:=xh;obtain⟨qa,qn,qc⟩:=ph;simp only[Hd.v]at e1 e3 HE;cases gg
     ·go_wp2;go_roundw
      case rel => exact ⟨i + 1, by omega, by go_num, (fun j hj hg => by
        rcases mA j i with h | h;·exact eL j h hg
        · obtain rfl : j = i := by omega
          rw[hU.out] at hg; cases hg), z⟩
      ·exact μ
     ·by_cases fl:nx=sx
      ·rw[bz fl]at HE;go_wp2_with fail;refine HE.out.mono ?_;rintro e w5 ⟨rfl,J⟩;have fn:=z.trans J;go_wp2;go_roundw
       ·
        exact ⟨i + 1, by omega, by go_num, (fun j hj hg => by
          rcases mA j i with h | h;·exact eL j h hg
          · obtain rfl : j = i := by omega
            rw[hV.out, hW.out, fl]), fn⟩
       ·exact μ
      ·rw[bw fl]at HE;have ma:=ll.out bq (Bd Y PS G i oL.out hU.out (by rw[hV.out,hW.out];exact fl));have mb:=ad ma;clear ma;go_wp2_with fail;refine HE.out.mono ?_;rintro e w5 ⟨rfl,J⟩;have fn:=z.trans J;go_wp2_with fail;have Z:=cL.trans (fn.chg (λ_=>False)) (λi _ e=>e.elim);refine⟨σ,.inl ⟨_,_,rfl,uQ (fn.heap l0),?_⟩⟩;refine⟨_,results_tmp rfl _ _ _,?_,?_,h4 _ Z⟩;·rw[mb.out];rfl
       ·rw[mb.out];intro h;cases h
    ·obtain rfl:i=M:=(by omega);have hz:¬((i:Int)<i):=(by omega);have mc:=ad (li.out bq (Bc Y PS G (fun j hj hg=>eL j (by have:=ah.out.2.1;omega) hg)));have mg:=ue c (Y.take k) (fun p hp=>ln.out bq p (kg hp));have mk:(Y.take k).length=k:=(by rw [aP,ah.out.2.2.2.1];omega);rw [mk]at mg;have pu:k*c<=(k+m)*(c+4):=bo (by omega) (by omega);have pw:(Y.take k).flatten.length<=1000000:=(by have:=HL.out;omega);obtain⟨s4,mm⟩:=gw aS 42 uAE (show ao wr aS (.slice na i nc) xs from sN.fr z) k (by rw [ah.out.1];exact oo);have bm : cV wr aS eB (.slice na k nc) (xs.take k) (Y.take k) := ⟨mm, by rw [aP, aP, ah.out.1, ah.out.2.2.2.1], fun t ha hb => by
       simp only[n5]
       exact (cN.2 t (by rw[aP] at ha; omega) (by rw[aP] at hb; omega)).see.fr z⟩
     have mn:=ad (λW' (h:Fr wr W')=>F6 (.slice na k nc) (xs.take k) (Y.take k) W' ⟨bm.1.fr h,bm.2.1,λt ha hb=>(bm.2.2 t ha hb).fr h⟩ ω);clear mg pu mk mm bm sN sG sP cN rP ln eL li ll;obtain⟨FL,hZ⟩:∃FL,FL=(Y.take k).flatten:=⟨_,rfl⟩;rw[<- hZ]at mn pw;have px:=ad hZ;clear hZ;have fr:=lz.fr z;obtain⟨oa,oc,rfl⟩:=fr.o.shape';have b0:=z.cell h8;have V:=z.cell hB;have b4:wr.cell? ⟨B,3,none⟩=some (.slice oa L.length oc):=(by rw[aG fr.h];rfl);have bT:=ad fr;have p1:base<=wr.heap.size:=(by have:=z.size;have:=cL.size;have:=HH.out;omega);have p2:Hid (L.length+FL.length<=2147483648):=(by show _<=_;omega);clear h8 h9 hA hB ls t1 t2 fr lz;go_upto_region 17 with fail;have p3:=z.heap ou;have mu:∀q,(Value.slice oa L.length oc).ownBlock=some q->q<H:=λq e=>(o1 q e).2;rw[show Op.load 22 (.tmp 80)=CM from rfl]
     go_region_held3 (λW => W.cell? ⟨H, 0, none⟩ = some (.pointer (some ⟨B, 0, none⟩)) ∧ W.cell? ⟨B, 0, none⟩ = some (N k))
      (first | exact p4 | exact p5 | exact p6 _ | go_keep)
      (((first
        | (go_at_call 105; refine (mn.out _ (Fr.refl wr).drew).mono ?_; rintro e w5 ⟨v5, rfl, bC, J⟩
           have p4 := And.intro (J.cell b0) (J.cell V)
           have b5 := J.cell b4
           obtain ⟨fa, fc, p7⟩ := bC.shape'
           subst p7)
        | (refine mH eB rfl (.tmp 81) (.tmp 89) 22 rfl sJ base rfl (bT.out.o.fr ((Fr.refl wr).drew.trans J)) _ FL rfl bC.see p2.out (ar p1 J.size) ?_
           intro v' O bc
           have m0 := bc.chg'.heap (J.heap (show wr.drew.heap[H]? = _ from p3)) (λe => by have := mu H e; omega)
           have mB := bc.chg'.heap (J.heap (show wr.drew.heap[B]? = _ from bT.out.h)) (bT.out.o.ne_cells bT.out.h δ)
           obtain ⟨ab, ac, ck⟩ := bc.own.shape'
           rw[aM] at ck
           subst ck
           have p5 : O.cell? ⟨H, 0, none⟩ = some (.pointer (some ⟨B, 0, none⟩)) ∧ O.cell? ⟨B, 0, none⟩ = some (N k) := ⟨by rw[aG m0]; rfl, by rw[aG mB]; rfl⟩
           have e6 := af mB 3 rfl
           have f6 : O.frozen? ⟨B, 3, none⟩ = false := aB mB 3
           have p6 : ∀u, (O.setCell ⟨B, 3, none⟩ u).cell? ⟨H, 0, none⟩ = some (.pointer (some ⟨B, 0, none⟩)) ∧ (O.setCell ⟨B, 3, none⟩ u).cell? ⟨B, 0, none⟩ = some (N k) := λu => ⟨by rw[aG ((ay O ⟨B, 3, none⟩ u).heap m0 (λe => by have e : H = B := e; omega))]; rfl, by rw[aG (aI mB 3 u)]; rfl⟩))))
     all_goals go_wp2_with fail
     all_goals
      have fv:=ay O ⟨B,3,none⟩ (.slice ab (L.length+FL.length) ac);have p8:=aI mB 3 (.slice ab (L.length+FL.length) ac);have fB:Fr wr w5:=(Fr.refl wr).drew.trans J;have o5:=bT.out.o.fr fB;have qi:=bT.out.b.fr fB;have mv:=bX qi o5 bc δ;have ql:∀q,(Value.slice ab (L.length+FL.length) ac).ownBlock=some q->¬q=B:=λq e h=>bc.own.ne_cells mB δ (by rw[e,h]);have qq:∀q,a7.ownBlock=some q->¬q=B:=λq e h=>mv.ne_cells mB δ (by rw[e,h])
      have qs:je (O.setCell ⟨B,3,none⟩ (.slice ab (L.length+FL.length) ac)) B base k m c (.slice ab (L.length+FL.length) ac) (L++FL) a7 (al++fj G n) (n+(k+m)):=
       ⟨p8,bc.own.chg fv ql,mv.chg fv qq⟩
      have mx:(O.setCell ⟨B,3,none⟩ (.slice ab (L.length+FL.length) ac)).heap[D]?=some (.deferred (some [])):=fv.heap (bc.chg'.heap (fB.heap (z.heap l0)) (λe=>by have:=mu D e;have:=J.size;omega)) (λe=>by have e:D=B:=e;omega);have e0:=((((cL.trans (z.chg (λ_=>False)) (λi _ e=>e.elim)).trans (fB.chg (λ_=>False)) (λi _ e=>e.elim)).trans bc.chg' (λi _ e=>Or.inr (Or.inl e))).trans fv (λi _ e=>Or.inl e));refine⟨σ,.inl ⟨_,_,rfl,uQ mx,?_⟩⟩;refine⟨_,results_tmp rfl _ _ _,?_,?_,h4 _ e0⟩;·rw[mc.out];rfl
      ·intro _;refine⟨.slice ab (L.length+FL.length) ac,a7,?_⟩;rw[mc.out,ol.out];show je _ B base k m c _ (L++(Y.take k).flatten) a7 _ _;rw[<- px.out];exact qs.put mx rfl
 case stop=>rintro D c I W hD _ h _;exact h.elim
def AN:Value->Nat | .slice _ n _=>n | _=>0
def OT(k m c n:Nat)(v:Value)(l:U0)(w:World)(U:ao w eB v l)(hk:1<=k)(b2:k+m<=255)(b3:1<=c)(b4:c<=4096)(hn:n<=4294967296)(hF:l.length<=6000\/((k+m)*(c+4)<=1000000/\n<=1000000/\l.length<=20000000))(X:dm w):Calls prog 57 #[N k,N m,N c,N n,v] w λe w'=>∃u D,e=.returned (.tuple #[u,D,.int .i64 ((eu k m c n l).1:Int)])/\Ow w' w.heap.size eB u (eu k m c n l).2.1/\Ow w' w.heap.size eJ D (eu k m c n l).2.2/\Fr w w':=by
 have F:=ad (EN k m c n hk b2 b3 b4);have hl:l.length<=20000000:=ω
 have fE:=ad (show ∀L,L=(k+m)*(c+4)->L<=l.length->L<=1000000 from λL h1 h2=>by rw[<- h1]at hF;omega);have fN:=ad (show l.length<=6000\/n<=1000000 by omega);clear hF;obtain⟨Y,Z⟩:=rz k m c n;obtain⟨a0,fQ,rfl,hT,fS,_⟩:=U.shape;unfold maxLen at fS;by_cases al:8388608<n;·rw[Z ω]at F;have A:=ad (tC k m c n l al);clear U X Y Z;go_in;go_wp2_with fail;refine(F.out _).mono ?_;rintro e G ⟨rfl,I⟩;go_wp2;go_ret3;rw[A.out];exact⟨_,_,rfl,Ow.nil,Ow.nil,I⟩
 ·obtain⟨q3,q4⟩:=Y ω;by_cases aa:16777216<aV k c n*((k+m)*(c+4));·rw[q4 ω]at F;have A:=ad (tA k m c n l al aa);clear U X q3 q4 Z Y aa;go_in;go_wp2_with fail;refine(F.out _).mono ?_;rintro e G ⟨rfl,I⟩;go_wp2;go_ret3;rw[A.out];exact⟨_,_,rfl,Ow.nil,Ow.nil,I⟩
  ·rw[q3 ω]at F;by_cases cN:l.length<aV k c n*((k+m)*(c+4));·have A:=ad (tw k m c n l al aa cN);clear U X q3 q4 Z Y;generalize aV k c n*((k+m)*(c+4))=size at *;have j1:(l.length:Int)<size:=ω;go_in;go_wp2_with fail;refine(F.out _).mono ?_;rintro e G ⟨rfl,I⟩;go_wp2;go_ret3;rw[A.out];exact⟨_,_,rfl,Ow.nil,Ow.nil,I⟩
   ·by_cases cR:aV k c n*((k+m)*(c+4))<l.length;·have A:=ad (tx k m c n l al aa cR);clear U X q3 q4 Z Y;generalize aV k c n*((k+m)*(c+4))=size at *;have j1:¬(l.length:Int)<size:=ω;have j2:(size:Int)<l.length:=ω;go_in;go_wp2_with fail;refine(F.out _).mono ?_;rintro e G ⟨rfl,I⟩;go_wp2;go_ret3;rw[A.out];exact⟨_,_,rfl,Ow.nil,Ow.nil,I⟩
    ·have av:l.length=aV k c n*((k+m)*(c+4)):=ω;have A:=ad (tB k m c n l al aa av);have gb:1*5<=(k+m)*(c+4):=bo ω ω;have gc:1*1<=k*c:=bo hk b3;have a8:n<=aV k c n*(k*c):=(by have:=λh=>(rx k c n ω (aV k c n)).2 h;omega);have a9:=ad (AM k m c b2 b4);have b6:=ad (λs=>Hz k m c l (s*((k+m)*(c+4))));have b7:=ad (λs b=>Od l c (s*((k+m)*(c+4))) (k+m) b);have b9:=ad (B3 k m c l);have bC:=ad (B1 k m c l);have bG:=ad (wD k m c l);have aC:=ad (vR k m c l);have cT:=ad (λa b=>show(lg l c a (k+m) b).length<=k+m from by rw[pe];exact ar (sk _ _) (gp (mV l c a (k+m))))
     have bL := ad (fun (B z : Nat) (ov D v' : Value) (d l' : List UInt8) (p : List Nat) (W : World) (h1 : je W B w.heap.size k m c ov d D p z) (h2 : ∀ V, Below w.heap.size W V → ao V eB v' l') (h3 : l'.length = (k + m) * (c + 4)) (h4 : l'.length ≤ 1000000) (h5 : z ≤ 30000000) (h6 : p.length ≤ 30000000) (h7 : d.length ≤ 20000000) (h8 : w.heap.size ≤ W.heap.size) (h9 : w.heap.size ≤ B) (g1 : ∀ V, Below w.heap.size W V → dm V) =>
       Hy B w.heap.size k m c z ov D v' d l' p W h1 h2 h3 h4 b4 hk b2 b3 h5 h6 h7 h8 h9 g1)
     obtain⟨o,az⟩:∃o,o=aV k c n:=⟨_,rfl⟩;obtain⟨L,ac⟩:∃L,L=(k+m)*(c+4):=⟨_,rfl⟩;obtain⟨J,bR⟩:∃J,J=k*c:=⟨_,rfl⟩;rw[<- az,<- ac]at av F;rw[<- ac]at a9 gb b6 b7 bL b9 bC bG aC;rw[<- az]at A a8;rw[<- bR]at gc a8 bG aC;have da:o*5<=o*L:=lN _ ω;have bS:J<=L:=(by rw[bR,ac];exact bo ω ω);have bb:o*J<=o*L:=lN _ bS;have db:(k+m)<=L:=(by rw[ac];exact qI _ ω);have bc:o*(k+m)<=o*L:=lN _ db;have bT:=ad (And.intro av (And.intro a8 (And.intro da (And.intro bb (And.intro bS bc)))));have HS:=ad U;have HT:=ad X;rw[<- av]at F;have hV:¬(l.length:Int)<l.length:=ω;have hW:(n:Int)<=8388608:=ω;have g4:=ad ac;clear U X Y Z q3 q4 aa cN cR av az ac bR da bS bb db bc a8;go_in;go_wp2_with fail;refine(F.out _).mono ?_;rintro e G ⟨rfl,I⟩;go_wp2_with fail;have hA:Fr G (G.alloc (.cells #[N k,N m,N c,.slice none 0 0,.slice none 0 0,.int .i64 0] 175)):=(Fr.refl G).alloc _;have dd:=aD G (.cells #[N k,N m,N c,.slice none 0 0,.slice none 0 0,.int .i64 0] 175) G.heap.size rfl;generalize G.alloc (.cells #[N k,N m,N c,.slice none 0 0,.slice none 0 0,.int .i64 0] 175)=w2 at *;have gO:=I.size;generalize G.heap.size=B at *;have dj:=I.trans hA;have dk:je w2 B w.heap.size k m c (.slice none 0 0) [] (.slice none 0 0) [] 0:=⟨dd,Ow.nil,Ow.nil⟩;clear hA dd I F;go_loopw [4,16] (λsv ev wr=>∃(s z:Nat) (a':Option Addr) (c':Nat) (ov D:Value) (d:U0) (p:List Nat),s<=o/\Hid (z=l.length-s*L)/\sv=.slice a' z c'/\ao w eB (.slice a' z c') (l.drop (s*L))/\je wr B w.heap.size k m c ov d D p (s*(k+m))/\Hid (d.length=s*J)/\Hid (p.length<=s*(k+m))/\Hid (fz k m c l (o-s) s d p=fz k m c l o 0 [] [])/\Fr w wr) (λsv _ _=>AN sv);·exact⟨0,l.length,a0,fQ,_,_,[],[],ax _,by show _=_;rw[qH,Nat.sub_zero],rfl,by rw[qH];exact HS.out,by rw[qH];exact dk,by show _=_;simp,ax _,rfl,dj⟩
     ·
      clear dk dj;obtain⟨s,z,a',c',ov,D,d,p,dl,a1,rfl,bf,q,a2,cb,bk,M⟩:=hrel;by_cases ds:s<o
      ·have dv:s*L+L<=l.length:=(by rw [bT.out.1];have:=cY L (show s+1<=o from ds);rw [bP,gl]at this;exact this);have a3:(l.drop (s*L)).length=z:=(by rw [bn];exact a1.out.symm);have bl:L<=z:=(by rw [a1.out];omega);obtain⟨dz,a4⟩:=gw eB 22 sJ bf L (by rw [a3];exact bl);obtain⟨fa,fc,bm,O⟩:=gN eB 22 sJ bf L (by rw [a3];exact bl);rw [a3]at bm O;have cc:((l.drop (s*L)).take L).length=L:=(by rw [aP,a3];omega);have bc:s*(k+m)<=o*(k+m):=cY _ dl;have bb:s*J<=o*J:=cY _ dl;obtain⟨l1,l2,l3,l4,l5,l6⟩:=bT.out;have ha:p.length<=30000000:=(by have:=cb.out;omega);have cl:d.length<=20000000:=(by have:=a2.out;omega);have hS:=ad (fun W (h:Fr wr W)=>bL.out B (s*(k+m)) ov D (.slice a' L c') d ((l.drop (s*L)).take L) p W (q.fr h) (fun V h'=>a4.fr (Below.trans (show Below w.heap.size w W from M.trans h) h')) cc (by rw [cc];exact fE.out L g4.out (by omega)) (by omega) ha cl (M.trans h).size gO (fun V h'=>HT.out.fr (Below.trans (show Below w.heap.size w W from M.trans h) h')));rw [b6.out s,b7.out s]at hS;obtain⟨f,eb⟩:∃ f,o - s=f+1:=⟨o - s - 1,by omega⟩;have ec:o - (s+1)=f:=(by omega);have cq:=bk.out;rw [eb]at cq;have cr:=ad (fun h=>b9.out f s d p h);have cs:=ad (fun h=>bC.out f s d p h);have ct:=ad (fun h=>aC.out (s*L) dv h);have hZ:=cT.out (s*L) (s*(k+m));have cu:(s+1)*L=s*L+L:=(by rw [bP,gl]);have ef:(s+1)*J=s*J+J:=(by rw [bP,gl]);have ek:(s+1)*(k+m)=s*(k+m)+(k+m):=(by rw [bP,gl]);have em:(l.drop (s*L)).drop L=l.drop ((s+1)*L):=(by rw [kP,cu]);rw [em]at O;have hb:Hid (z - L=l.length - (s+1)*L):=(by show _=_;rw [cu,a1.out];omega);have eq:=ad cq;have bt:=ad (And.intro ef (And.intro ek ec));have d0:wr.cell? ⟨B,0,none⟩=some (N k):=(by rw [aG q.h];rfl);have d1:wr.cell? ⟨B,1,none⟩=some (N m):=(by rw [aG q.h];rfl);have d2:wr.cell? ⟨B,2,none⟩=some (N c):=(by rw [aG q.h];rfl);have ij:=q.h;have er:=q.o.lt;have es:=q.b.lt;have e4:(0:Int)<z:=(by omega);have i0:(L:Int)<=z:=(by omega);have hc:=ad bl;clear l1 l2 l3 l4 l5 l6 bc bb cc dv a3 bl cu ef ek em cq bk eb ec a4 bf q;generalize lg l c (s*L) (k+m) (s*(k+m))=bs,g9 k m c l (s*L)=sr at *;go_wp2_with fail;refine(a9.out _).mono ?_;rintro e w3 ⟨rfl,cv⟩;have e5:=ad (hS.out w3 cv);go_wp2_with fail;refine e5.out.mono ?_;rintro e w4 ⟨rfl,e6,e7⟩;have e8 : Fr w w4 := ag.below (M.trans cv) e7 (M.trans cv).size (fun i e => by
         rcases e with e | e | e;·omega
         · exact (er i e).1
         · exact (es i e).1)
       have cz:=ad e6;clear e6 e7 hS e5;by_cases ah:sr.1=0
       ·obtain⟨he,hg,c0⟩:=cz.out ah;have e0:=c0.h;have x0:=af e0 0 rfl;have x1:=af e0 1 rfl;have x2:=af e0 2 rfl;have hh:=ad c0;have hm:=ad (ct.out ah);have ho:=ad (cr.out ah);rw[ah];clear e0 c0 ct cr cs cz;go_wp2_with fail;refine(a9.out _).mono ?_;rintro e w5 ⟨rfl,e9⟩;have hp:=e8.trans e9;have hq:=hh.out.fr e9;go_wp2;go_roundw
        ·
         exact ⟨s + 1, z - L, fa, fc, he, hg, d ++ sr.2.flatten, p ++ bs, ds, hb, rfl, O, by rw [bt.out.2.1]; exact hq, by
           show _ = _
           rw[aM, a2.out, hm.out, bt.out.1], by
           show _ ≤ _;rw[aM, bt.out.2.1]
           have := cb.out; omega, by
           show _ = _
           rw[bt.out.2.2, ← ho.out]; exact eq.out, hp⟩
        ·have:=hc.out;simp[AN];omega
       ·have ai:Hid (eu k m c n l=(sr.1,[],[])):=(by show _=_;rw[A.out];simp only[<- eq.out,cs.out ah,ah,if_false]);have hr:¬((sr.1:Nat):Int)=0:=ω;clear ct cr cs cz es er A;obtain⟨x,K⟩:∃x,x=sr.1:=⟨_,rfl⟩;rw[<- K]at ai hr ⊢;clear K;go_wp2;go_ret3;rw[ai.out];exact⟨_,_,rfl,Ow.nil,Ow.nil,e8⟩
      ·have az:o=s:=ω;subst az;obtain⟨l1,l2,l3,l4,l5,l6⟩:=bT.out;have e4:z=0:=(by rw[a1.out];omega);subst e4;have c1:n<=d.length:=(by rw[a2.out];exact l2);have cl:d.length<=20000000:=(by rw[a2.out];omega);have c3:=bk.out;rw[eA]at c3;have eC:fz k m c l o 0 [] []=(0,d,p):=c3.symm;have ai:Hid (eu k m c n l=if(d.drop n).all (· == 0)then(0,d.take n,p)else(2,[],[])):=ad (by rw[A.out,eC];rfl);obtain⟨oa,oc,rfl⟩:=q.o.shape';obtain⟨fa,fc,bm,O⟩:=gN eB 22 sJ q.o.see n c1;obtain⟨dz,a4⟩:=gw eB 22 sJ q.o.see n c1;have d3:wr.cell? ⟨B,3,none⟩=some (.slice oa d.length oc):=(by rw[aG q.h];rfl);have d4:wr.cell? ⟨B,4,none⟩=some D:=(by rw[aG q.h];rfl);have bx:(d.drop n).length=d.length-n:=bn;have hu:=ad (λW (h:Fr wr W)=>jY (.slice oa n oc) (d.take n) W (a4.fr h) (by have:=fN.out;rw[aP];omega));obtain⟨ol,c7⟩:∃ol,ol=d.length:=⟨_,rfl⟩;obtain⟨Q,fb⟩:∃Q,Q=ol-n:=⟨_,rfl⟩;rw[<- c7]at bm dz d3 bx c1 cl;rw[<- c7]at O;rw[<- fb]at bm O bx;have fe:=q.b;have i7:Q<=20000000:=ω;have i8:(n:Int)<=ol:=ω;have fh:=ad bx;have jn:=ad q;clear l1 l2 l3 l4 l5 l6 c3 eC bk a2 cb a1 A bL aC bG b9 bC cT b7 b6 a9 a4 bf q c7 fb bx;generalize d.take n=TK,d.drop n=R at *;go_wp2;go_loopw [76,18] (λiv xv wx=>∃i:Nat,i<=Q/\iv=N i/\(∀j,j<i->R.getD j 0=0)/\wx=wr) (λiv _ _=>Q-(intOf iv).toNat);·exact⟨0,ax _,rfl,λj h=>absurd h (np j),rfl⟩
       ·
        obtain⟨i,hi,rfl,hz,rfl⟩:=hrel;by_cases hy:i<Q
        ·have a7:i<R.length:=(by rw[fh.out];exact hy);obtain⟨b,fl,cp,hv,e1⟩:=O.cell1 Fk.u8 rfl i a7;simp only[dt]at hv;obtain⟨rfl,h0,rfl⟩:=hv;clear h0;have cB:=ad (ce R i 0 a7);have e2:wr.cell? ⟨b,fl+i,none⟩=some (.int .u8 ((R[i].toNat:Nat):Int)):=e1;have fv:=ad a7;obtain⟨zx,fB⟩:∃x:UInt8,x=R[i]'a7:=⟨_,rfl⟩;rw[<- fB]at e2 cB;have cC:=ad (show zx.toNat=0->zx=0 from λh=>fO.1 (by rw[h];rfl));have cE:=ad (show zx=0->zx.toNat=0 from λh=>by rw[h];rfl);clear e1 fB a7;have i1:(i:Int)<Q:=ω;have i2:(0:Int)<=i:=ω;by_cases K:zx.toNat=0
         ·rw[K]at e2;have e3:wr.cell? ⟨b,fl+i,none⟩=some (.int .u8 0):=e2;have hB:=ad (cC.out K);clear e2 K cC cE;go_wp2;go_roundw
          case rel => exact ⟨i + 1, by omega, by go_num, (fun j hj => by
            rcases mA j i with h | h;·exact hz j h
            · obtain rfl : j = i := by omega
              rw[cB.out, hB.out]), by trivial⟩
          ·exact μ
         ·have j7:¬((zx.toNat:Nat):Int)=0:=ω;have hE:Hid (eu k m c n l=(2,[],[])):=(by show _=_;rw[ai.out,ae];intro h;have:=n6.1 h (R[i]'fv.out) (co _);have h2:=cB.out;rw[ce R i 0 fv.out]at h2;rw[h2]at this;exact K (cE.out (by simpa using this)));clear K cC cE;go_wp2;go_ret3;rw[hE.out];exact⟨_,_,rfl,Ow.nil,Ow.nil,M⟩
        ·obtain rfl:i=Q:=ω;have hG:Hid (eu k m c n l=(0,TK,p)):=(by show _=_;rw[ai.out,an];rw[n6];intro x K;obtain⟨j,hj,rfl⟩:=uX.1 K;have:=hz j (by rw[<- fh.out];exact hj);rw[ce R j 0 hj]at this;rw[this];rfl);have ka:¬((i:Int)<i):=ω;have hH:=ad (hu.out wr.drew (Fr.refl wr).drew);clear hz ai O;go_upto_region 20 with fail
         go_region_held3 (λw' => w'.cell? ⟨B, 3, none⟩ = some (.slice oa ol oc) ∧ w'.cell? ⟨B, 4, none⟩ = some D)
          (first | go_keep)
          ((go_at_call 98;refine hH.out.mono ?_;rintro e w6 ⟨v6,rfl,fC,cL⟩;have hI:=cL.cell d3;have hJ:=cL.cell d4))
         have fD:=(Fr.refl wr).drew.trans cL;have hK:=fC.rebase (b:=w.heap.size) M.size;have hL:=fe.fr fD;have hM:=M.trans fD;clear fC fe hI hJ d3 d4;go_wp2;go_ret3;rw[hG.out];exact⟨_,_,rfl,hK,hL,hM⟩
def BW(o:fK)(h:gX o=true):me o=0:=by unfold me;rw[an h]
def BX(o:fK)(h:gX o=false):me o=9:=by unfold me;rw[ae (by rw[h];simp)]
def IY(b:U0)(h:(dZ b).1≠0):dZ b=((dZ b).1,[],[]):=by
 unfold dZ at h ⊢;unfold eu at h ⊢;simp only at h ⊢;repeat' split
 all_goals first | rfl | (simp_all;done)
theorem B4(k m c:Nat)(l:U0):∀(f s:Nat) (e:U0) (d:List Nat),(fz k m c l f s e d).2.2.length<=d.length+f*(k+m)
 | 0,_,e,d=>by simp[fz]
 | f+1,s,e,d=>by
  unfold fz
  by_cases h:(g9 k m c l (s*((k+m)*(c+4)))).1=0
  ·simp only[h,jh]
   refine ar (B4 k m c l f (s+1) _ _) ?_
   have o:(lg l c (s*((k+m)*(c+4))) (k+m) (s*(k+m))).length<=k+m:=by
    rw[pe];exact ar (sk _ _) (gp (mV _ _ _ _))
   rw[aM,bP f 1,gl]
   omega
  ·simp only[h,if_false];exact ax _
def Bz(k m c n:Nat)(l:U0):(eu k m c n l).2.2.length<=l.length:=by
 by_cases d:8388608<n;·rw[tC k m c n l d];exact ax _
 ·by_cases e:16777216<aV k c n*((k+m)*(c+4));·rw[tA k m c n l d e];exact ax _
  ·by_cases f:l.length<aV k c n*((k+m)*(c+4));·rw[tw k m c n l d e f];exact ax _
   ·by_cases h:aV k c n*((k+m)*(c+4))<l.length;·rw[tx k m c n l d e h];exact ax _
    ·have o:l.length=aV k c n*((k+m)*(c+4)):=ω;rw[tB k m c n l d e o];have p:=B4 k m c l (aV k c n) 0 [] [];have q:aV k c n*(k+m)<=aV k c n*((k+m)*(c+4)):=lN _ (qI _ ω);simp only;split
     ·split;·simp only[jG]at p;show(fz k m c l (aV k c n) 0 [] []).2.2.length<=_;omega
      ·exact ax _
     ·exact ax _
abbrev uL(b:U0):Prop:=b.length<=6000\/((hD (aq b)+hQ (aq b))*(hC (aq b)+4)<=1000000/\hN (aq b)<=1000000/\b.length<=20000000)
def Ku(v:Value)(b:U0)(w:World)(q:ao w eB v b)(hF:uL b)(ht:dm w):Calls prog 22 #[v] w λe w'=>∃hv u,e=.returned (.tuple #[hv,u,N (bg b).2.2,.int .i64 ((bg b).1:Int)])/\Ow w' w.heap.size eB u (bg b).2.1/\Fr w w'/\((bg b).1=0->∃g xv,hv=.pointer (some ⟨g,0,none⟩)/\w.heap.size<=g/\w'.heap[g]?=some (mU (ie (aq b)) (hP (aq b)) (fZ (aq b)) (hD (aq b)) (hQ (aq b)) (hC (aq b)) (hN (aq b)) xv)):=by
 have hl:b.length<=20000000:=ω
 have cf:=ad (show(iC b).length<=6000\/((hD (aq b)+hQ (aq b))*(hC (aq b)+4)<=1000000/\hN (aq b)<=1000000/\(iC b).length<=20000000)from by rw[rU];omega);have HS:=ad q;obtain⟨a0,ci,rfl,cT,cj,_⟩:=q.shape;unfold maxLen at cj;by_cases m:b.length<42;·have o:=ad (Nu _ b w q m);have J:=ad (yC b m);go_in;go_wp2_with fail;refine o.out.mono ?_;rintro e z ⟨rfl,p⟩;go_wp2_with fail;refine aT (v:=.tuple #[.pointer none,.slice none 0 0,.int .i64 0,.int .i64 1]) (by simp[results,results22,go_sem, *]) rfl ?_;rw[J.out];exact⟨_,_,rfl,Ow.nil,p,λh=>by cases h⟩
 ·have o:=ad (Nv _ b w q ω ht);by_cases d:iD b=true
  ·rw[an d]at o;have al:=Di b m;have ah:=ad (λW u (h:ao W eB u (aq b))=>L4 u (aq b) W h al);by_cases D:1<hX (aq b)
   ·have J:=ad (yG b m d D);have ai:=ad D;have aj:=ad d;go_in;go_wp2_with fail;refine o.out.mono ?_;rintro e z ⟨u,rfl,L,_,p⟩;have M:=ad (ah.out z u (L aj.out));go_wp2_with fail;refine M.out.mono ?_;rintro e F ⟨ak,O⟩;have he:e=.returned (.tuple #[.pointer none,.int .i64 2]):=by
     rcases O with h | h;·exact h.2
     ·have:=ai.out;omega
    subst he;have G:=p.trans ak;go_wp2_with fail;refine aT (v:=.tuple #[.pointer none,.slice none 0 0,.int .i64 0,.int .i64 2]) (by simp[results,results22,go_sem, *]) rfl ?_;rw[J.out];exact⟨_,_,rfl,Ow.nil,G,λh=>by cases h⟩
   ·cases I:gX (bM (aq b))
    ·have J:=ad (yE b m d D I);have ai:=ad D;have aj:=ad d;have a1:=ad (BX _ I);clear q ht m D al d I;go_in;go_wp2_with fail;refine o.out.mono ?_;rintro e z ⟨u,rfl,L,_,p⟩;have M:=ad (ah.out z u (L aj.out));clear L o ah;go_wp2_with fail;refine M.out.mono ?_;rintro e F ⟨ak,O⟩;obtain⟨g,rfl,bk,Q⟩:∃g,e=.returned (.tuple #[.pointer (some ⟨g,0,none⟩),.int .i64 (me (bM (aq b)))])/\z.heap.size<=g/\True:=by
      rcases O with h | h;·exact absurd h.1 ai.out
      ·obtain⟨_,g,R,U,_⟩:=h;exact⟨g,R,U,trivial⟩
     rw[a1.out];clear O M;have G:=p.trans ak;go_wp2_with fail;refine aT (v:=.tuple #[.pointer none,.slice none 0 0,.int .i64 0,.int .i64 9]) (by simp[results,results22,go_sem, *]) rfl ?_;rw[J.out];exact⟨_,_,rfl,Ow.nil,G,λh=>by cases h⟩
    ·have cl:=pU _ I;have a1:=ad (BW _ I);have ai:=ad D;have aj:=ad d;obtain⟨o1,o2,o3,o4,o5,o6,o7,o8⟩:=cl;have cr:=iH ((aq b).getD 7 0);have cs:=iH ((aq b).getD 8 0);have ct:hN (aq b)<4294967296:=(by have:=lJ ((aq b).drop 13 |>.take 4);rw[aP,bn,al]at this;exact this);have a2:=ad (λW u (h:ao W eB u (iC b)) (U:Fr w W)=>OT (hD (aq b)) (hQ (aq b)) (hC (aq b)) (hN (aq b)) u (iC b) W h o5 o6 o7 o8 ω cf.out (ht.fr U));have bu:Hid (dZ b=eu (hD (aq b)) (hQ (aq b)) (hC (aq b)) (hN (aq b)) (iC b)):=rfl;rw[<- bu.out]at a2;obtain⟨V,hK⟩:∃K,K=b.length-21:=⟨_,rfl⟩;obtain⟨fa,fc,bx,a3⟩:=l9 eB 22 sJ q 21 V ω ω;have b0:(b.take V).drop 21=iC b:=(by unfold iC;rw[lQ,hK];congr 1);rw[b0]at a3;have da:∀W,(Instr.slice 22 (.slice a0 b.length ci) (some (.int .i64 21)) (some (.int .i64 (V:Int))) none).run prog W=.ok (.slice fa (V-21) fc) W:=bx;have hw:IntKind.i64.wrap ((b.length:Int)-21)=(V:Int):=(by rw[aA _ ω];omega);have a4:=ad (λW (h:Fr w W)=>DW _ b W (q.fr h) ω);have HEq:=ad (λW v1 v2 (R:ao W eB v1 (b.take 21)) (U:ao W eB v2 (b.drop (b.length-21)))=>zp v1 v2 _ _ W R U);have a5:=ad (λh=>yD b m d D I h);have a6:=ad (λh=>yF b m d D I h);have dc:(21:Int)<=V:=ω;have dd:(V:Int)<=b.length:=ω;have a7:=ad (IY b);have cz:Hid ((dZ b).2.2.length<=20000000):=(by show _<=_;have R:=Bz (hD (aq b)) (hQ (aq b)) (hC (aq b)) (hN (aq b)) (iC b);rw[rU]at R;rw[bu.out];omega);clear q ht m D al d I o1 o2 o3 o4 o5 o6 o7 o8 cr cs ct bx b0 hK;generalize hN (aq b)=fN,hC (aq b)=fC,hQ (aq b)=fQ,hD (aq b)=fD,fZ (aq b)=fB,hP (aq b)=fP,ie (aq b)=fS at *;go_in;go_wp2_with fail;refine o.out.mono ?_;rintro e z ⟨u,rfl,L,_,p⟩;have M:=ad (ah.out z u (L aj.out));clear L o ah;go_wp2_with fail;refine M.out.mono ?_;rintro e F ⟨ak,O⟩;obtain⟨g,rfl,bk,Q⟩:∃g,e=.returned (.tuple #[.pointer (some ⟨g,0,none⟩),.int .i64 (me (bM (aq b)))])/\z.heap.size<=g/\F.heap[g]?=some (mU fS fP fB fD fQ fC fN (.int .u8 (hX (aq b):Int))):=by
      rcases O with h | h;·exact absurd h.1 ai.out
      ·obtain⟨_,g,R,U,h3⟩:=h;exact⟨g,R,U,h3⟩
     rw[a1.out];clear O M;have G:=p.trans ak;have x3:=af Q 3 rfl;have x4:=af Q 4 rfl;have x5:=af Q 5 rfl;have x6:=af Q 6 rfl;have b5:=ad (a2.out F.drew _ (a3.fr (G.trans (Fr.refl F).drew)) (G.trans (Fr.refl F).drew));have c3:=p.size;go_upto_region 7 with fail
     go_region_held3 (λw' => w'.cell? ⟨g, 3, none⟩ = some (N fD) ∧ w'.cell? ⟨g, 4, none⟩ = some (N fQ) ∧ w'.cell? ⟨g, 5, none⟩ = some (N fC) ∧ w'.cell? ⟨g, 6, none⟩ = some (N fN))
      (first | go_keep)
      ((go_at_call 57;refine b5.out.mono ?_;rintro e w3 ⟨u3,dj,rfl,a8,a9,X⟩;have c4:=X.cell x3;have c5:=X.cell x4;have c6:=X.cell x5;have c7:=X.cell x6))
     have av:Fr w w3:=G.trans ((Fr.refl F).drew.trans X);have aC:=X.heap Q;clear c4 c5 c6 c7 x3 x4 x5 x6 a2 b5 a3 Q X;by_cases Y:(dZ b).1=0
     ·have Z:=ad (a6.out Y);obtain⟨ba,bc,rfl⟩:=a9.shape';have b9:=a8.rebase (b:=w.heap.size) (show w.heap.size<=F.drew.heap.size from G.size);have bC:=ad (a4.out w3 av);have ds:=cz.out;rw[Y];clear a5 a6 a7 a8 a9 Y a4;generalize (dZ b).2.1=RB,(dZ b).2.2.length=bl at *;have dv:=aA ((bl:Int)+1) ω;go_wp2_with fail;refine bC.out.mono ?_;rintro e w4 ⟨v1,v2,rfl,bG,bL,az⟩;have c8:=ad (HEq.out w4 v1 v2 bG bL);have c9:=av.trans az;have cB:=az.heap aC;have cC:=b9.fr az;clear bG bL bC HEq aC b9 av az;go_wp2_with fail;refine c8.out.mono ?_;rintro e w5 ⟨rfl,bb⟩;have bR:=c9.trans bb;have bS:=bb.heap cB;have bT:=cC.fr bb;have ca:w.heap.size<=g:=ar c3 bk;by_cases ab:b.take 21=b.drop (b.length-21);·have bd:Hid (bg b=(0,RB,bl)):=ad (by rw[Z.out,an ab];rfl);rw[bz ab];clear ab Z;go_wp2_with fail;refine aT (v:=.tuple #[.pointer (some ⟨g,0,none⟩),u3,N bl,.int .i64 0]) (by simp[results,results22,go_sem, *]) rfl ?_;rw[bd.out];exact⟨_,_,rfl,bT,bR,λ_=>⟨g,_,rfl,ca,bS⟩⟩
      ·have bd:Hid (bg b=(0,RB,bl+1)):=ad (by rw[Z.out,ae ab]);rw[bw ab];clear ab Z;go_wp2_with fail;refine aT (v:=.tuple #[.pointer (some ⟨g,0,none⟩),u3,.int .i64 ((bl:Int)+1),.int .i64 0]) (by simp[results,results22,go_sem, *]) rfl ?_;rw[bd.out];exact⟨_,_,rfl,bT,bR,λ_=>⟨g,_,rfl,ca,bS⟩⟩
     ·have Z:=ad (a5.out Y);have cE:¬(((dZ b).1:Nat):Int)=0:=ω;have cF:=ad (a7.out Y);rw[cF.out]at a8;clear a5 a6 a7 a9 Y a4 HEq aC;generalize (dZ b).1=x at *;go_wp2_with fail;refine aT (v:=.tuple #[.pointer none,.slice none 0 0,.int .i64 0,.int .i64 (x:Int)]) (by simp[results,results22,go_sem, *]) rfl ?_;rw[Z.out];exact⟨_,_,rfl,Ow.nil,av,λh=>absurd h (by simpa using cE)⟩
  ·have be:iD b=false:=(by simpa using d);rw[ae d]at o;have J:=ad (yB b m be);have cL:=ad be;clear q ht m d be;go_in;go_wp2_with fail;refine o.out.mono ?_;rintro e z ⟨u,rfl,_,cb,p⟩;obtain rfl:=cb cL.out;clear cb;go_wp2_with fail;refine aT (v:=.tuple #[.pointer none,.slice none 0 0,.int .i64 0,.int .i64 5]) (by simp[results,results22,go_sem, *]) rfl ?_;rw[J.out];exact⟨_,_,rfl,Ow.nil,p,λh=>by cases h⟩
def IX(k m c n:Nat)(l:U0)(q:1<=k)(z:1<=c)(h:(eu k m c n l).1=0):¬8388608<n/\¬16777216<aV k c n*((k+m)*(c+4))/\l.length=aV k c n*((k+m)*(c+4))/\(eu k m c n l).2.1.length=n:=by
 by_cases d:8388608<n;·rw[tC k m c n l d]at h;cases h
 ·by_cases e:16777216<aV k c n*((k+m)*(c+4));·rw[tA k m c n l d e]at h;cases h
  ·by_cases A:l.length<aV k c n*((k+m)*(c+4));·rw[tw k m c n l d e A]at h;cases h
   ·by_cases D:aV k c n*((k+m)*(c+4))<l.length;·rw[tx k m c n l d e D]at h;cases h
    ·have o:l.length=aV k c n*((k+m)*(c+4)):=ω;refine⟨d,e,o,?_⟩;rw[tB k m c n l d e o]at h ⊢;simp only at h ⊢;have G:1*1<=k*c:=bo q z;have I:n<=aV k c n*(k*c):=(by have:=λh=>(rx k c n ω (aV k c n)).2 h;omega);by_cases f:(fz k m c l (aV k c n) 0 [] []).1=0
     ·have F:=wD k m c l (aV k c n) 0 [] [] (by rw[jZ];omega) f;rw[an f]at h ⊢;by_cases p:((fz k m c l (aV k c n) 0 [] []).2.1.drop n).all (· == 0)=true;·rw[an p];show((fz k m c l (aV k c n) 0 [] []).2.1.take n).length=n;rw[aP,F,jG];omega
      ·rw[ae p]at h;cases h
     ·rw[ae f]at h;exact absurd h f
def yH(b:U0)(h:(bg b).1=0):gX (bM (aq b))=true/\(bg b).2.1.length=hN (aq b)/\hN (aq b)<=b.length/\aV (hD (aq b)) (hC (aq b)) (hN (aq b))*((hD (aq b)+hQ (aq b))*(hC (aq b)+4))<=16777216:=by
 by_cases d:b.length<42;·rw[yC b d]at h;cases h
 ·cases e:iD b;·rw[yB b d e]at h;cases h
  ·by_cases f:1<hX (aq b);·rw[yG b d e f]at h;cases h
   ·cases m:gX (bM (aq b));·rw[yE b d e f m]at h;cases h
    ·by_cases o:(dZ b).1=0;·rw[yF b d e f m o];obtain⟨D,F,G,I,p,J,q,K⟩:=pU _ m;have z:=IX (hD (aq b)) (hQ (aq b)) (hC (aq b)) (hN (aq b)) (iC b) p q o;obtain⟨L,M,O,A⟩:=z;have Q:1*1<=hD (aq b)*hC (aq b):=bo p q;have R:hN (aq b)<=aV (hD (aq b)) (hC (aq b)) (hN (aq b))*(hD (aq b)*hC (aq b)):=(by have:=λh=>(rx (hD (aq b)) (hC (aq b)) (hN (aq b)) ω (aV (hD (aq b)) (hC (aq b)) (hN (aq b)))).2 h;omega);have U:aV (hD (aq b)) (hC (aq b)) (hN (aq b))*(hD (aq b)*hC (aq b))<=aV (hD (aq b)) (hC (aq b)) (hN (aq b))*((hD (aq b)+hQ (aq b))*(hC (aq b)+4)):=lN _ (bo ω ω);have V:=rU b;exact⟨rfl,A,ω,ω⟩
     ·rw[yD b d e f m o]at h;exact absurd h o
def Rz(b:U0):Nat × U0 × Nat:=
 if(bg b).1=0 then(0,qu (ie (aq b)) (hP (aq b)) (fZ (aq b)) (hD (aq b)) (hQ (aq b)) (hC (aq b)) (bg b).2.1,(bg b).2.2)else((bg b).1,[],0)
def L9(w:World):Calls prog 38 #[.int .i64 16,.bool false,.slice none 0 0] w λe w'=>e=.returned (.slice none 0 0)/\w=w':=by
 go_in;go_wp2;go_loopw [7,14] (λd h m=>d=.slice none 0 0/\h=.int .i64 0/\m=w) (λ_ _ _=>0);·exact⟨rfl,rfl,rfl⟩
 ·obtain⟨rfl,rfl,rfl⟩:=hrel;go_wp2;go_ret;exact⟨rfl,rfl⟩
def Nb(w:World):Calls prog 42 #[.slice none 0 0] w λe w'=>e=.returned (.slice none 0 0)/\w=w':=by
 go_in;go_wp2;go_loopw [3,10] (λd h m=>d=.slice none 0 0/\h=.int .i64 0/\m=w) (λ_ _ _=>0);·exact⟨rfl,rfl,rfl⟩
 ·
  obtain⟨rfl,rfl,rfl⟩:=hrel;go_wp2;go_loopw [0,3] (λh d m=>h=.slice none 0 0/\d=.slice none 0 0/\m=wr) (λ_ _ _=>0);·exact⟨rfl,rfl,rfl⟩
  ·obtain⟨rfl,rfl,rfl⟩:=hrel;go_wp2;go_ret;exact⟨rfl,rfl⟩
def IG(w:World):Calls prog 160 #[.slice none 0 0] w λe w'=>e=.returned (.bool true)/\w=w':=by
 go_in;go_wp2;go_loopw [8] (λd h=>d=.int .i64 0/\h=w) (λ_ _=>0);·exact⟨rfl,rfl⟩
 ·obtain⟨rfl,rfl⟩:=hrel;go_wp2;go_ret;exact⟨rfl,rfl⟩
attribute [local go_sem] sE
def uM(e:World)(H B:Nat)(L:U0)(d:Value)(f:List Hd)(W:World):Prop:=
 W.heap[H]?=some (.cells #[d] 22 (0,0))/\W.heap[H+1]?=some (.cells #[.slice none 0 0] 22 (0,0))/\Ow W B eB d L/\Fr e W
def uM.own(m:World)(H B D:Nat)(L:U0)(F:Value)(hD:m.heap.size<=D):OwnFrom D (uM m H B L F):=by
 rintro s W G Q ⟨I,J,K,M⟩ d f;have p:∀ {q:Nat} {o:Obj},W.heap[q]?=some o->o.isCells=true->G.heap[q]?=some o:=λ{q o} h O=>by
  rw [d.block q (aX.1 h).1 (fun e => by
    obtain ⟨_, R, z, A⟩ := f q e.symm
    rw[h] at z; cases z; rw[O] at A; cases A)]
  exact h
 exact⟨p I rfl,p J rfl,lF K d (λr e=>(f r e).2),M.own d (λk e=>by have:=(f k e).1;omega)⟩
def ML(w:World):Calls prog 102 #[.int .i64 1,.slice none 0 0] w λe w'=>∃u,e=.returned (.tuple #[u,.int .i64 0])/\Ow w' w.heap.size eB u (bE 0)/\Fr w w':=by
 have HM:=ad (λW=>IG W);have a5:=ad (λW=>Fl 0 ω W);have bl:=lH 0 ω;have a6:=ad (λW=>Nn none 0 0 1 ω W);generalize bE 0=m at *;have bm:=cW (0:Int) ω;refine(lh (n:=9)).1 ?_;refine callsIn_of_wp_marks func102 rfl trivial ?_ rfl;simp only[ntmps102,lO,gF,jG,Nat.reduceAdd,Nat.reduceSub,qY,qX,qM,qS,jl,lR];have bq:Fence.wide.fn 160:=trivial;have bs:Fence.wide.fn 97:=trivial;have bt:Fence.wide.fn 161:=trivial
 gi_wp2_with (first
   | (gi_at_call 160; refine (lh.2 (HM.out _)).mono ?_; rintro e w1 ⟨rfl, rfl⟩)
   | (gi_at_call 97; refine (lh.2 (a5.out _)).mono ?_; rintro e d ⟨v2, rfl, O, Q⟩; obtain ⟨o, p, a7⟩ := O.shape'; subst a7)
   | (gi_at_call 161; refine (lh.2 (a6.out _)).mono ?_; rintro e w3 ⟨rfl, rfl⟩))
 have R:(d.alloc (.cells #[.slice o m.length p] 22)).heap.size=d.heap.size+1:=gu _ _;have U:((d.alloc (.cells #[.slice o m.length p] 22)).alloc (.cells #[.slice none 0 0] 22)).heap.size=d.heap.size+1+1:=by rw[gu,R]
 have aa:(((d.alloc (.cells #[.slice o m.length p] 22)).alloc (.cells #[.slice none 0 0] 22)).alloc (.cells #[.slice none 0 0] 44)).heap.size=d.heap.size+1+1+1:=by rw[gu,U]
 have V:Fr d (d.alloc (.cells #[.slice o m.length p] 22)):=(Fr.refl d).alloc _;have g0:=aD d (.cells #[.slice o m.length p] 22) d.heap.size rfl;generalize d.alloc (.cells #[.slice o m.length p] 22)=F at *;have L:Fr F (F.alloc (.cells #[.slice none 0 0] 22)):=(Fr.refl F).alloc _;have g1:=aD F (.cells #[.slice none 0 0] 22) (d.heap.size+1) R.symm;generalize F.alloc (.cells #[.slice none 0 0] 22)=G at *;have I:Fr G (G.alloc (.cells #[.slice none 0 0] 44)):=(Fr.refl G).alloc _;have g2:=aD G (.cells #[.slice none 0 0] 44) (d.heap.size+1+1) U.symm;generalize G.alloc (.cells #[.slice none 0 0] 44)=J at *;have q:Fr J (J.alloc (.cells #[N 1] 3)):=(Fr.refl J).alloc _;have X:=aD J (.cells #[N 1] 3) (d.heap.size+1+1+1) aa.symm;generalize J.alloc (.cells #[N 1] 3)=z at *;have Y:Fr w z:=Q.trans (V.trans (L.trans (I.trans q)));have k0:=q.heap (I.heap (L.heap g0));have k1:=q.heap (I.heap g1);have k2:=q.heap g2;have al:=O.fr (V.trans (L.trans (I.trans q)));have b0:d.heap.size+1+1+1<z.heap.size:=(aX.1 X).1;have b1:w.heap.size<=d.heap.size:=Q.size;generalize d.heap.size=H at *;obtain⟨cb,b3,a8,a9⟩:=Nm (H+1+1) (H+1+1+1) (.slice none 0 0) [] 1 ω ω σ z k2 X ao.nil;have h0:uM w H w.heap.size m (.slice o m.length p) [] z:=⟨k0,k1,al,Y⟩;clear R U aa V L I q g0 g1 g2 X k0 k1 k2 O al Q a8
 refine wpIn_rangeFunc_ownF rfl ω (gf:=233) (lb:=#[.pointer (some ⟨H+1+1,0,none⟩),.pointer (some ⟨H+1+1+1,0,none⟩)]) rfl trivial (enters_of func233 (by kernel_rfl) rfl) (a9 _ ω) (λh k=>el.trans h k) (el.put ω ω) (Below.refl _ z) (λ_=>rfl)
  _ (λ_ _ _=>False) (uM.own w H w.heap.size z.heap.size m _ Y.size) (λ_ _ _ _ _ hs _ _=>hs) h0 (λx:Hd=>{ tmps:=#[.int .i64 1,.slice none 0 0,undef,undef,.slice none 0 0,.int .i64 0,.pointer (some ⟨H,0,none⟩),.pointer (some ⟨H+1,0,none⟩),x.v,undef,.int .i64 1,.bool false,.bool false,.int .i64 1,.bool false,.bool false,.bool false,.slice none 0 0,.bool true,.bool false,.bool false,.slice none 0 0,.int .i64 0,.int .u64 0,.slice o m.length p,.slice none 0 0,.int .i64 1,.func (.func 233) #[] #[.pointer (some ⟨H+1+1,0,none⟩),.pointer (some ⟨H+1+1+1,0,none⟩)],x.v,undef,undef,undef,undef,undef,undef,undef,undef,undef,undef,undef,undef,undef,undef,undef],defers:=[] }) ?assign ?body ?done ?stop
 case assign=>intro l x W K M;gi_wp2;exact M
 case body=>rintro lr bb x W _ bc;exact absurd bc (by rw[show bK ([]:List U0).length 1=0 from rfl];omega)
 case done=>
  rintro D ys W hD _ ⟨h1,h2,h5,h8⟩ M;have c0:=af h1 0 rfl;have c1:=af h2 0 rfl;have a0:=ad (EC _ _ m [] W h5.see ao.nil (by simp;omega));rw[iJ]at a0;have bd:=ad M;have be:=h8.size;clear h1 h2 h5 M;have b9:Fence.wide.fn 46:=trivial;gi_wp2_with (gi_at_call 46;refine(lh.2 a0.out).mono ?_;rintro e w8 ⟨v8,rfl,a2,a3⟩);have Z:=a3.heap bd.out;obtain⟨bf,bk,rfl⟩:=a2.shape';refine⟨σ,.inl ⟨_,_,rfl,uQ Z,?_⟩⟩;refine⟨.tuple #[.slice bf m.length bk,.int .i64 0],by simp[results,results102,go_sem, *],_,rfl,?_,?_⟩;·exact lF (a2.rebase be) (sA w8 D (.deferred none)) (λr e=>by cases e;exact⟨_,Z,rfl⟩)
  ·exact Below.trans (h8.trans a3) (belowK_b (w:=w) (au _) w8 D _ _ (ar Y.size hD) Z rfl rfl)
 case stop=>rintro D c bb W hD _ h _;exact h.elim
