/- Lemmas for ThreeTurned. -/
import Derived.Test.YtndbpldeabnkbaaGreatDoorM19
import Derived.Test.YtndbpldeabnkbaaGreatDoorM37
import Derived.Test.YtndbpldeabnkbaaGreatDoorM41
set_option linter.all false
set_option maxHeartbeats 8000000
set_option maxRecDepth 100000
namespace Go.Fk
abbrev wl:=@Nat.lt_irrefl
end Go.Fk
namespace Go.Proofs.YtndbpldeabnkbaaGreatDoor
open Go.RowKit Go.Fk
def Pa(l:Z0)(n A k c:Nat)(e:0<c)(d:l.length<=n)(h:A+k*c<=n):ek (((oM l n).drop A).take (k*c)) c=eX l c A k:=by
 have m:=AC l n d;have o:(((oM l n).drop A).take (k*c)).length=k*c:=by rw[aA,aN,m];omega
 have z:aH (k*c) c=k:=by unfold aH;rw[show k*c+c-1=c*k+(c-1) by rw[dX];omega,Nat.mul_add_div e,qx ω,dq]
 apply gT;·simp[ek,eX,o,z]
 ·intro j F D;rw[mC]at D;have:=bQ c (show j+1<=k by omega);rw[be,dC]at this;simp only[ek,eX,fK,jd];exact Pc l n A (k*c) (j*c) c d h this
def xP{w w':World}{b:Nat}(h:w'.heap[b]?=w.heap[b]?)(e:b<w.heap.size):b<w'.heap.size:=by
 rcases mV b w'.heap.size with d | d;·exact d
 ·rw[uA d,Array.getElem?_eq_getElem e]at h;cases h
def rE:Value->Nat | .slice _ n _=>n | _=>0
def J5(k m c:Nat)(v:Value)(l:Z0)(w:World)(hv:ah w eB v l)(cp:1<=k)(g5:k+m<=255)(a6:1<=c)(hc:c<=4096)(hl:l.length<=1000000)(hz:aG k c l.length*((k+m)*(c+4))<=16777216)(ht:cP w):Calls Tryz.prog 20 #[N k,N m,N c,v] w λe w'=>∃v',e=.returned (.tuple #[v',.int .i64 0])/\Ow w' w.heap.size eB v' (dJ l k m c (aG k c l.length))/\Fr w w':=by
 obtain⟨va,vc,rfl,ka,g7,kb⟩:=hv.shape;unfold maxLen at g7;have HS:=ad (Jq k m c l.length cp g5 a6 hc);rw[(Aa k m c l.length).1 ω |>.1 hz]at HS;have HP:=ad (λW dv hs ds (h:cO W aO eB dv hs ds) (Q:ds.length=k) (V:∀p∈ds,p.length=c)=>J2 m dv hs ds c W h ω ω V ω);have gO:=ad (λW pv p (h:ah W eB pv p) (V:p.length<=1000000) (h3:cP W)=>yO pv p W h V h3);have hh:=ad (DY k m c l.length cp a6 ω hc ω);have HD:=ad (Ep k m c ω hc);have kc:1*1<=k*c:=bH cp a6;have ke:k*c<=255*4096:=bH ω hc;have ki:aG k c l.length*(k*c)<=l.length+k*c:=by unfold aG;have Q:=zg (l.length+k*c-1) (k*c);omega
 have kk:=wP (aG k c l.length) (k*c) (1000000+255*4096) ω ω;have ct:l.length<=aG k c l.length*(k*c):=by have:=λh=>(tf k c l.length ω (aG k c l.length)).2 h;omega
 go_in;go_wp2_with fail;refine(HS.out _).mono ?_;rintro e R ⟨rfl,cu⟩;have b9:(Tryz.prog.info? 91).map (·.size)=some 3:=by kernel_rfl
 have ef:(#[N k,N m,N c]:Array Value).all (·.oneCell')=true:=by rw[iI];rfl
 have h3:=aB R (.cells #[.int .i64 0,.int .i64 0,.int .i64 0] 91) _ rfl;have a7:=Ab _ _ #[N k,N m,N c] _ _ h3;have bs:Fr R ((R.alloc (.cells #[.int .i64 0,.int .i64 0,.int .i64 0] 91)).setRow R.heap.size #[N k,N m,N c]):=ai.below ((Fr.refl R).alloc _) (dl _ _ _) σ (λq hq=>by rw[hq];exact al _);go_upto_region 5 with(refine fz rfl 91 (.tmp 12) (.tmp 35) rfl R.heap.size #[N k,N m,N c] rfl rfl 91 _ h3 b9 rfl ef ?_);generalize (R.alloc (.cells #[.int .i64 0,.int .i64 0,.int .i64 0] 91)).setRow R.heap.size #[N k,N m,N c]=W at *;have bA:=cu.trans bs;have hg:w.heap.size<=R.heap.size:=cu.size;generalize R.heap.size=g at *;clear h3 ef bs cu HS;generalize hN:aG k c l.length=F at *;have HN:=ad hN;clear hN;have hk:=λW=>oQ eB rfl rfl 30 Tryz.underlying30 .i64 .i64 (F*(k*c)) ω W;have a0:=ag a7 0 rfl;have a1:=ag a7 1 rfl;have a2:=ag a7 2 rfl;generalize aC:F*(k*c)=M at *;generalize hd:k*c=d at *;have bB:=ad aC;have bL:=ad hd;clear aC hd;have km:¬(M:Int)<0:=ω
 go_region_held3 (λw' => w'.cell? ⟨g, 0, none⟩ = some (N k) ∧ w'.cell? ⟨g, 1, none⟩ = some (N m) ∧ w'.cell? ⟨g, 2, none⟩ = some (N c))
  (first | go_keep)
  ((first
    | (go_at_call 44; refine (hh.out _).mono ?_; rintro e U ⟨rfl, ap⟩; have b0 := ap.cell a0; have b1 := ap.cell a1; have b2 := ap.cell a2)
    | (go_at_call 45; refine (HD.out _).mono ?_; rintro e G ⟨rfl, ba⟩; have d0 := ba.cell b0; have d1 := ba.cell b1; have d2 := ba.cell b2)))
 have bR:Fr W G:=((Fr.drew (Fr.refl W)).trans ap).trans ba;have e3:=pT (base:=w.heap.size) eB rfl rfl M ω G (by have:=(bA.trans bR).size;exact this);have e4:=bR.alloc (.cells (madeCells #[eB.z] M) eB.e);have e5:=e4.heap a7;have bT:=bA.trans e4;have hu:g<G.heap.size:=by have:=(aR.1 (bR.heap a7)).1;exact this
 have e6:=hv.fr bT;have kn:w.heap.size<=G.heap.size:=(bA.trans bR).size;have hw:l.length<=(List.replicate M eB.zero).length:=by rw[jX];exact ct
 clear d0 d1 d2 b0 b1 b2 a0 a1 a2 ap a7 bA hk;generalize G.alloc (.cells (madeCells #[eB.z] M) eB.e)=w4 at *;generalize G.heap.size=I at *;go_wp2_with (with_reducible refine CQ rfl rfl (.tmp 44) (.tmp 45) 30 30 rfl Tryz.underlying30 _ _ _ _ rfl rfl e3 e6 hw ?_);intro K bu c0;have c1:l++List.replicate (M-l.length) eB.zero=oM l M:=by unfold oM;rw[C3];rfl
 first | rw[c1]at bu | (rw[C3,c1]at bu)
 have c3:=c0.heap e5 (λe=>by cases e;exact absurd hu (wl _));have e7:Fr w K:=(ai.below (B:=w.heap.size) bT c0 bT.size (λq e=>by simp only[Value.ownBlock,mU]at e;omega));have e8:=bu.see;have hx:I<K.heap.size:=(bu.lt I rfl).2;clear bu c0 e3 e6 c1 bT e5;have e9:I+1<=K.heap.size:=by have:=hx;omega
 have kq:((F*((k+m)*(c+4)):Nat):Int)=((F*((k+m)*(c+4)):Nat):Int):=rfl;go_wp2_with (refine sS eB rfl (.const (.int .i64 0)) (.tmp 47) 30 rfl Tryz.underlying30 .i64 .i64 _ (F*((k+m)*(c+4))) rfl rfl rfl ω (I+1) e9 ?_);intro w6 eL ca;have fa:w6.heap[g]?=some (.cells #[N k,N m,N c] 91 (0,0)):=(ca.block g (aR.1 c3).1 σ).trans c3;have fb:Fr K w6:=Fr.own (Fr.refl K) ca (λk e=>by cases e);have fc:=e7.trans fb;have bv:I<K.heap.size:=e9;have fe:w6.heap[I]?=K.heap[I]?:=ca.block I bv σ;have fh:=e8;clear e8 c3 e7 ca fb;have fk:=AC l M ct;generalize hZ:oM l M=Z at *;have HZ:=ad hZ;have h0:=ad fk;clear hZ fk;have h4:Hid (∀s,s<F->ek ((Z.drop (s*d)).take d) c=eX l c (s*d) k):=by intro s hs;rw[<- HZ.out,<- bL.out];refine Pa l M _ k c ω ct ?_;have:=bQ (k*c) (show s+1<=F by omega);rw[be,dC,bL.out,bB.out]at this;rw[bL.out];exact this
 go_wp2;go_loopw [13,14] (λav ov wr=>∃(s n bc a3:Nat),s<=F/\Hid (n=(F-s)*d)/\av=.slice (some ⟨I,bc,none⟩) n a3/\wr.heap[I]?=K.heap[I]? /\ ah K eB (.slice (some ⟨I,bc,none⟩) n a3) (Z.drop (s*d))/\Ow wr (I+1) eB ov (dJ l k m c s)/\wr.heap[g]?=some (.cells #[N k,N m,N c] 91 (0,0))/\Fr w wr) (λav _ _=>rE av);case atStart=>exact⟨0,M,0,M,ar _,by show _=_;rw[<- bB.out,wk],rfl,fe,by simpa using fh,eL,fa,fc⟩
 case round=>
  clear fh eL fa fc fe;obtain⟨s,n,bc,a3,hs,cf,rfl,bx,aC,X,hB,Y⟩:=hrel;by_cases h5:s<F
  ·have hA:s*d+d<=M:=(by have:=bQ d (show s+1<=F by omega);rw[be,dC,bB.out]at this;exact this);have ks:d<=n:=(by rw[cf.out];have:=bQ d (show 1<=F-s by omega);omega);have h6:Hid (n-d=(F-(s+1))*d):=(by show _=_;rw[cf.out,show F-s=(F-(s+1))+1 by omega,be,dC];omega);have h7:Hid (Z.drop ((s+1)*d)=(Z.drop (s*d)).drop d):=ad (by rw[lk,be,dC]);have h8:Hid (dJ l k m c (s+1)=dJ l k m c s++pI l k m c (s*d)):=ad (by rw[<- bL.out];rfl);have h9:Hid ((dJ l k m c s).length+(k+m)*(c+4)<=16777216):=(by show _<=_;rw[pV];have Q:=bQ ((k+m)*(c+4)) (show s+1<=F by omega);rw[be,dC]at Q;omega);have hE:=ad (h4.out s h5);have c6:(Z.drop (s*d)).length=n:=(by rw[aN,h0.out,cf.out,Nat.sub_mul,bB.out]);generalize dJ l k m c s=lay,s*d=A,Z.drop (s*d)=J at *;have fm:ah wr eB (.slice (some ⟨I,bc,none⟩) n a3) J:=Eo aC bx;have hG:=jj eB 30 Tryz.underlying30 fm d ω;obtain⟨hH,hI,hJ,fn⟩:=Ag eB 30 Tryz.underlying30 aC d ω;rw[c6]at hJ fn;obtain⟨hK,c7⟩:=hG;have kv:(0:Int)<n:=ω;have b9:(Tryz.prog.info? 91).map (·.size)=some 3:=(by kernel_rfl);have hL:=ad c6;clear c6 fm;have kx:g<wr.heap.size:=(aR.1 hB).1;have fr:I<wr.heap.size:=xP bx bv;generalize wr=W at *;go_upto_region 9 with fail;go_wp2_with (first | (refine ml rfl 91 (.tmp 12) rfl g rfl 91 #[N k,N m,N c] (0,0) _ hB Tryz.underlying91 rfl b9 ?_));refine(HD.out _).mono ?_;rintro e U ⟨rfl,ap⟩;go_wp2_with fail;refine(Ir _ d a3 c a6 _).mono ?_;rintro e G ⟨rfl,ch⟩;have fs:G.heap[U.heap.size]?=some (.cells #[.slice (some ⟨I,bc,none⟩) d a3] 30 (0,0)):=(by rw[ch,jk _ _ _ σ];exact aB _ _ _ rfl);have c8:G.heap[U.heap.size+1]?=some (.cells #[N c] 3 (0,0)):=(by rw[ch];exact aB _ _ _ σ);have ba:Fr U G:=(by rw[ch];exact((Fr.refl U).alloc _).alloc _);have hM:U.heap.size+1<G.heap.size:=(aR.1 c8).1;have b3:=ap.trans ba;have fv:=c7.fr b3;have ac:(J.take d).length=d:=(by rw[aA,hL.out];omega);obtain⟨z,a4,f0,f1⟩:=U8 U.heap.size (U.heap.size+1) _ (J.take d) c a6 ω (by rw[ac];omega) G fs c8 fv;have hO:z=I/\a4=bc:=by
    rcases f0 with h | ⟨ky,h⟩;·rw[h]at ac;simp at ac;omega
    ·rw[ac]at h;simp only[ir,mU,Addr.mk.injEq,mr]at h;exact⟨h.1.1.symm,h.1.2.symm⟩
   obtain⟨rfl,rfl⟩:=hO;have f2 := ad (Uq _ rfl _ _ U.heap.size (U.heap.size + 1) _ _ _ _ (fun ys h => h) G (by omega) hM (by
     rw[ac];unfold aH
     exact ay (kF _ _) ω) f1)
   clear f1 f0 fs c8 ch hK;go_wp2_with fail;refine f2.out.mono ?_;rintro e w4 ⟨v4,rfl,cA,bs⟩;have cj:=b3.trans bs;have f4:ah w4 eB (.slice (some ⟨z,a4,none⟩) (J.take d).length a3) (J.take d):=(by rw[ac];exact c7.fr cj);have b4:=U0 (E:=eB) rfl a6 f4 cA.see;rw[hE.out]at b4;have bd:=ad (mC l c A k);have f5:(iD z a4 (J.take d).length c (aH (J.take d).length c)).length=k:=(by rw[b4.2.1];exact bd.out);have b5:=ad f5;clear f5;have f6:∀i (h:i<(iD z a4 (J.take d).length c (aH (J.take d).length c)).length),∃o n' c',(iD z a4 (J.take d).length c (aH (J.take d).length c))[i].v=.slice (some ⟨z,o,none⟩) n' c':=λi h=>⟨a4+i*c,min c ((J.take d).length-i*c),min c ((J.take d).length-i*c),by simp[iD,kA,Hd.v]⟩;have hR:=ad f6;clear f6;generalize iD z a4 (J.take d).length c (aH (J.take d).length c)=O at *;have fB:=ad (HP.out w4 v4 _ _ b4 bd.out (oJ l c A k));have k1:=ad ac;clear ac f2 f4;go_wp2_with fail;refine fB.out.mono ?_;rintro e w9 ⟨v9,rfl,aj,fC,cB,ck⟩;have hS:=ad (xI m _ c (oJ l c A k));have cE:=ad (xH m (eX l c A k) c);have hU:Hid (dJ l k m c (s+1)=lay++gy (eX l c A k++mD m (eX l c A k) c)):=ad (by rw[h8.out,pI,EO]);have hV:=ad (oJ l c A k);generalize eX l c A k=D at *;generalize mD m D c=L at *;clear fB;have fD:=ad cB.1;have bf:=cj.trans ck;have fN:=bs.trans ck;have bk:=cA.fr ck;have hW:O.length+aj.length<=2147483648:=(by rw[b5.out,fD.out,cE.out];omega);go_wp2_with (at_builtin;refine iJ aO rfl (.tmp 65) (.tmp 66) 75 rfl Tryz.underlying75 G.heap.size rfl bk _ _ rfl fC.see hW fN.size ?_);intro v7 w7 aa;have hT:aO.e≠eB.e:=δ;have cG:=aa.own;have fP:∀q,q<G.heap.size->v4.ownBlock≠some q:=λq hq e=>(by have:=(bk.lt q e).1;omega);have fQ:w7.heap[z]?=K.heap[z]?:=(by rw[aa.chg.block z (by have:=bf.size;omega) (λe=>fP z (by have:=b3.size;omega) e.symm),sL bf z fr];exact bx);have fS:=aa.chg'.heap (bf.heap hB) (λe=>fP g (by have:=b3.size;omega) e);have gb:=dx (X.fr bf) bk aa hT;have cL:Fr w w7:=(aa.below bk (Y.trans bf) (by have:=(Y.trans b3).size;omega) (Y.trans bf).size);have gc:nG w7 w4.heap.size eB aj L u14:=(cB.rows (λb hb=>nJ (X.lt b hb).2 cj.size)).beside bk aa hT;obtain⟨hY,ia,ge⟩:=cG.shape';have cR:(O++aj).length=k+m:=(by rw[am,b5.out,fD.out,cE.out]);rw[cR]at ge;have gg:=ad cR;clear cR;subst ge;have gi:w4.heap[z]?=K.heap[z]?:=(sL cj z fr).trans bx;have gs:∀(wr:World),wr.heap[z]?=K.heap[z]? -> ∀i (Q:i<O.length) (V:i<D.length),ah wr eB O[i].v D[i]:=λwr hb i Q V=>(by obtain⟨o,n',c',he⟩:=hR.out i Q;have:=b4.2.2 i Q V;rw[he]at this ⊢;exact Eo this (hb.trans gi.symm));have ih:=ad gs;have k6:lay.length+(k+m)*(c+4)<=16777216:=h9.out;have ij:cP w7:=ht.fr cL;have k7:G.heap.size<=w7.heap.size:=ay fN.size aa.size;have k8:w4.heap.size<=w7.heap.size:=ay ck.size aa.size;have gv:Hid (∀p∈D++L,p.length=c):=λp hp=>(jD.1 hp).elim (hV.out p) (hS.out p);have g0:Hid ((D++L).length=k+m):=ad (by rw[am,bd.out,cE.out]);clear gs b4 aa bk cA fC cB X hB bx aC c7 fv gi ij;go_wp2;go_loopw [14,69] (λov iv wr=>∃i:Nat,i<=k+m/\iv=N i/\wr.heap[z]?=K.heap[z]? /\ Ow wr (z+1) eB ov (lay++gy ((D++L).take i))/\nG wr w4.heap.size eB aj L ov/\Ow wr G.heap.size aO (.slice hY (k+m) ia) (O++aj)/\wr.heap[g]?=some (.cells #[N k,N m,N c] 91 (0,0))/\Fr w wr) (λ_ iv _=>k+m-(intOf iv).toNat);case atStart=>exact⟨0,ar _,rfl,fQ,by simpa [gy] using gb,gc,cG,fS,cL⟩
   case round=>
    clear fQ gb gc cG fS cL;obtain⟨i,hi,rfl,bm,X,dc,di,hB,Y⟩:=hrel;by_cases g1:i<k+m
    ·have la:(i:Int)<(k:Int)+m:=ω;have lc:(i:Int)<((k+m:Nat):Int):=ω;have Q:i<(O++aj).length:=(by rw[gg.out];exact g1);have V:i<(D++L).length:=(by rw[g0.out];exact g1);have dj:ah wr eB (O++aj)[i].v (D++L)[i]:=by
      by_cases cl:i<O.length;·have d3:i<D.length:=(by rw[bd.out,<- b5.out];exact cl);rw[kI cl,kI d3];exact ih.out wr bm i cl d3
      ·have d3:¬i<D.length:=(by rw[bd.out,<- b5.out];exact cl);rw[jZ ω,jZ ω];have e:i-D.length=i-O.length:=(by rw[bd.out,b5.out]);simp only[e];exact(dc.2 (i-O.length) _ _).1.see
     have it:Hid (gy ((D++L).take (i+1))=gy ((D++L).take i)++au (D++L)[i]):=ad (by rw[f8 V,Ox]);have i0:Hid ((gy ((D++L).take i)).length=i*(c+4)):=(by show _=_;rw[A0 _ c (λp hp=>gv.out p (fZ hp)),aA,fI ω]);have d4:Hid ((D++L)[i].length=c):=gv.out _ (bJ _);have li:i*(c+4)+(c+4)<=(k+m)*(c+4):=(by have:=bQ (c+4) (show i+1<=k+m by omega);rw[be,dC]at this;exact this);obtain⟨bb,oo,cc,g2,e1⟩:=di.see.cell1 (λ(h:Hd)=>h.v) rfl i Q;obtain⟨ra,rc,d5,_⟩:=dj.shape;rw[d4.out]at d5;rw[gg.out]at g2;generalize (O++aj)[i]=h at *;obtain⟨ha,hn,lv⟩:=h;simp only[Hd.v,ir]at d5;obtain⟨rfl,rfl,rfl⟩:=d5;simp only[Hd.v]at e1 dj;cases g2;have i1:(0:Int)<=i:=ω;have HC:=ad (gO.out wr _ _ dj (by rw[d4.out];omega) (ht.fr Y));generalize (D++L)[i]=pj at *;go_wp2_with fail;refine HC.out.mono ?_;rintro e i5 ⟨l0,rfl,i6,ak⟩;have cm:=X.fr ak;have i7:(lay++gy ((D++L).take i)).length+(au pj).length<=2147483648:=(by rw[am,gH,d4.out,i0.out];omega);have i8:z+1<=i5.heap.size:=(by have Q:=ak.size;have V:z<wr.heap.size:=xP bm bv;omega);go_wp2_with (at_builtin;refine iJ eB rfl (.tmp 73) (.tmp 75) 30 rfl Tryz.underlying30 (z+1) rfl cm _ _ rfl i6.see i7 i8 ?_);intro l1 g3 a5;have g4:∀q,q<z+1->u14.ownBlock≠some q:=λq hq e=>(by have:=(cm.lt q e).1;omega);have ji:g3.heap[z]?=K.heap[z]?:=(by rw[a5.chg.block z ω (λe=>g4 z ω e.symm),sL ak z (xP bm bv)];exact bm);have jv:=a5.chg'.heap (ak.heap hB) (λe=>g4 g ω e);have j0:=(dc.fr ak).app a5;have j1:=Pp (di.fr ak) cm a5 hT;have j2:Fr w g3:=a5.below cm (Y.trans ak) ω (Y.trans ak).size;go_wp2;go_roundw;case rel=>exact⟨i+1,ω,γ,ji,by rw[it.out];first | exact a5.own | (rw[<- bG];exact a5.own),j0,j1,jv,j2⟩
     case measure=>exact μ
    ·obtain rfl:i=k+m:=ω;have l2:¬(((k+m:Nat):Int)<((k+m:Nat):Int)):=ω;rw[cw (by rw[g0.out];exact al _),<- hU.out]at X;clear di dc;go_wp2_with (first | (refine ml rfl 91 (.tmp 12) rfl g rfl 91 #[N k,N m,N c] (0,0) _ hB Tryz.underlying91 rfl b9 ?_));refine(HD.out _).mono ?_;rintro e l3 ⟨rfl,cn⟩;go_wp2;go_roundw;case rel=>exact⟨s+1,n-d,hH,hI,ω,h6.out,rfl,(sL cn z (xP bm bv)).trans bm,by rw[h7.out];exact fn,X.fr cn,cn.heap hB,Y.trans cn⟩
     case measure=>simp only[rE];omega
  ·obtain rfl:s=F:=ω;obtain rfl:n=0:=(by rw[cf.out,fY,py]);go_wp2_with fail;obtain⟨oa,oc,rfl⟩:=X.shape';exact bF (v:=.tuple #[.slice oa (dJ l k m c s).length oc,.int .i64 0]) (by simp[results,Tryz.results20,go_sem, *]) rfl ⟨_,rfl,by rw[HN.out];exact X.rebase ω,Y⟩
def vH:aw Tryz.prog Hd:=⟨341,1,24,⟨none,0,0⟩,.slice none 0 0,λh=>[h.v],by kernel_rfl,δ,δ,by simp[Value.cells],λ_=>rfl,by intro x u d;simp at d;subst d;rfl⟩
def gJ(d:List Nat)(s:Nat):Nat:=
 if(aQ d).length=0 then 0
 else if(aQ d).length=1 then(if s=(aQ d).getD 0 0 then 1 else 0)
 else(dO ((aM (ce d (aQ d)) 14).take (2*(aQ d).length-2))).count s
def ie(L:Nat)(f:Nat->Nat):Z0:=(List.range L).map λs=>UInt8.ofNat (f s)
def co(d:List Nat):Z0:=ie d.length (gJ d)
def vK(L:Nat)(f:Nat->Nat):(ie L f).length=L:=by simp[ie]
def BE(L:Nat):ie L (λ_=>0)=List.replicate L (0:UInt8):=by
 apply gT;·simp[ie]
 ·intro i d e;simp[ie]
def Im(L:Nat)(f:Nat->Nat)(s c:Nat):(ie L f).set s (UInt8.ofNat c)=ie L (λj=>if j=s then c else f j):=by
 apply sH;intro j;by_cases d:j<L
 ·by_cases e:s=j;·subst e;rw[List.getElem?_set_self (by rw[vK];exact d)];simp[ie,d]
  ·rw[List.getElem?_set_ne e];simp[ie,d,iG e]
 ·rw[iW (by simp[vK];omega),iW (by rw[vK];omega)]
def BF(L:Nat)(f f':Nat->Nat)(h:∀s,f s=f' s):ie L f=ie L f':=by rw[show f=f' from funext h]
def La(c:Nat):IntKind.u8.wrap (((UInt8.ofNat c).toNat:Int)+1)=((UInt8.ofNat (c+1)).toNat:Int):=by
 rw[sR,jp,jp];omega
def Xp(v:Value)(d:List Nat)(w:World)(m:ah w eV v d)(hn:d.length<=300)(fn:∀x∈d,x<4294967296):Calls Tryz.prog 192 #[v,N 15] w λe w'=>∃v,e=.returned (.tuple #[v,.int .i64 0])/\Ow w' w.heap.size eB v (co d)/\Fr w w':=by
 obtain⟨a,fr,rfl,hz,fs,h7⟩:=m.shape
 unfold maxLen at fs
 have cE:=ad (KI _ d w m ω)
 have cL:(aQ d).length<=d.length:=by
  unfold aQ
  rw[(qC _ _ (zS d)).length_eq];exact D6 d
 have cN:∀s∈aQ d,s<d.length:=λs h=>D0 d s ((qC _ _ (zS d)).mem_iff.1 h)
 have HB:Hid (co d=ie d.length (gJ d)):=rfl
 have ap : Hid (∀ s, gJ d s = if (aQ d).length = 0 then 0
   else if (aQ d).length = 1 then (if s = (aQ d).getD 0 0 then 1 else 0)
   else (dO ((aM (ce d (aQ d)) 14).take (2 * (aQ d).length-2))).count s) := λ_ => rfl
 generalize gJ d=ln,co d=RB at *
 have b8:=ad cN
 have V:=ad cL
 clear cL
 clear cN
 generalize aQ d=o at *
 have h8:¬(300:Int)<d.length:=ω
 have h9:¬(32768:Int)<o.length:=by have:=V.out;omega
 have cR:=oQ eB rfl rfl 30 Tryz.underlying30 .i64 .i64 d.length ω
 go_in
 go_wp2_with fail
 refine cE.out.mono ?_
 rintro e F ⟨sv,rfl,aC,O⟩
 obtain⟨sa,sc,rfl⟩:=aC.shape'
 have av:=ad (pT (base:=w.heap.size) eB rfl rfl d.length ω F O.size)
 have L:Hid (Fr F (F.alloc (.cells (madeCells #[eB.z] d.length) eB.e))):=(Fr.refl F).alloc _
 have cT:Hid ((F.alloc (.cells (madeCells #[eB.z] d.length) eB.e)).heap[F.heap.size]?=some (.cells (madeCells #[eB.z] d.length) 5 (0,0))):=aB _ _ _ rfl
 generalize fv:madeCells #[eB.z] d.length=T0 at *
 clear fv
 rw[show(eB:aw Tryz.prog UInt8).e=5 from rfl]at av L cT
 rw[show(eB:aw Tryz.prog UInt8).e=5 from rfl]at cR
 have hU:=V.out
 rcases qr o.length 1 with h0 | A | R
 ·obtain rfl:o=[]:=kd ω
  have HR:Hid (RB=List.replicate d.length (0:UInt8)):=by
   show _=_;rw[HB.out,<- BE];exact BF _ _ _ λs=>by rw[ap.out];rfl
  clear HB ap
  go_wp2_with fail
  go_ret2
  exact⟨_,rfl,by rw[HR.out];exact av.out,O.trans L.out⟩
 ·obtain⟨Q,rfl⟩:∃Q,o=[Q]:=List.length_eq_one_iff.1 A
  have da:=b8.out Q σ
  have HR:Hid (RB=(List.replicate d.length (0:UInt8)).set Q 1):=by
   show _=_
   rw[HB.out,<- BE]
   have:=Im d.length (λ_=>0) Q 1
   rw[show(1:UInt8)=UInt8.ofNat 1 from rfl,this]
   exact BF _ _ _ λs=>by rw[ap.out];rfl
  obtain⟨b,dc,cp,a0,c0⟩:=tF (aC.see.fr L.out) 0 σ
  have bL:=av.out
  obtain⟨d1,d2⟩:=bL.cellAt (λc=>Fk.u8 c) rfl Q (by simpa using da)
  have bR:=bL.set (λc=>Fk.u8 c) rfl Q (by simpa using da) 1 (.int .u8 1) rfl
  have bT:=ep (i:=Q) (u:=.int .u8 1) (O.trans L.out) O.size ((O.trans L.out).size)
  rw[World.setCell_alloc_at (w:=F) _ _ _ _ _ rfl]at bR bT
  have HS:=ad bR
  have bb:=ad bT
  clear bR bT
  have hI:=O.trans L.out
  cases a0
  simp only[sA,dq]at c0
  simp only[aL,gS,iH]at *
  have i1:(0:Int)<=Q:=ω
  have i2:(Q:Int)<d.length:=ω
  clear HB ap bL av cT L
  go_wp2_with fail
  go_ret2
  exact⟨_,rfl,by rw[HR.out];exact HS.out,bb.out⟩
 ·have bu:=Gf d o
  have bv:=tC d o
  have dv:=ad (Ah (ce d o) 14 (by rw[bu];have:=V.out;omega))
  have f3:Hid (∀s,ln s=dR (ce d o) 15 (2*o.length-2) s):=λs=>by
   rw[ap.out,ae ω,ae ω,Ub (ce d o) bv 14 _ s (by have:=dv.out;rw[bu]at this;exact this)]
  have f4:=ad (Ge (ce d o) bv)
  have d0:=ad (λW (A:ah W eV (.slice a d.length fr) d) (R:ah W eJ (.slice sa o.length sc) o)=>Rf _ _ d o W A R ω b8.out fn)
  have bc:=ad (λr=>ND (ce d o) r)
  have f5:Hid (∀j (h:j<o.length),(ce d o)[j]?.map (·.syms)=some [o[j]]):=λj h=>by rw[Gg d o j h];rfl
  clear ap
  have hJ:((o.length:Int) == 1)=false:=by simp;omega
  have hK:¬(o.length:Int)<2:=ω
  have hL:¬o.length=1:=ω
  have hM:(ce d o).length<=300:=ω
  have ca:=ad bu
  have f6:=ad bv
  clear bu bv
  generalize ce d o=z at *
  have d3:=m.fr (O.trans L.out)
  have d4:=aC.see.fr L.out
  go_wp2_with fail
  refine(d0.out _ d3 d4).mono ?_
  rintro e w3 ⟨hR,rfl,cb,cc⟩
  obtain⟨X,Y,rfl⟩:=cb.shape'
  have d5:=ad (av.out.fr cc)
  have d6:=ad ((aC.fr L.out).fr cc)
  have bb:=ad ((O.trans L.out).trans cc)
  clear d3 d4 av aC d0 L m cE cR
  go_wp2_with fail
  have cf:=ad (nu (base:=w.heap.size) vH w3 #[Value.slice X z.length Y] [⟨X,z.length,Y⟩] 1 rfl (by simp[maxLen]) bb.out.size rfl)
  have bf:Fr w3 (w3.alloc (.cells #[Value.slice X z.length Y] 341)):=(Fr.refl w3).alloc _
  rw[show(vH:aw Tryz.prog Hd).e=341 from rfl]at cf
  have dE:=ad (d5.out.fr bf)
  have dT:=ad (d6.out.fr bf)
  have ec:=ad (bb.out.trans bf)
  have ch:=ad ((cb.rebase (O.trans ((Fr.refl F).alloc (.cells T0 5))).size).fr bf)
  clear d5 d6 bb cb
  generalize w3.alloc (.cells #[Value.slice X z.length Y] 341)=w4 at *
  clear bf
  go_loopw [9] (λZ wr=>∃(m:List Hd),1<=m.length/\m.length<=15/\Ow wr w.heap.size vH Z m/\Hid (∀t (h:t<m.length),Ow wr w.heap.size eH m[t].v (aM z t))/\Hid (Ow wr w.heap.size eH (.slice X z.length Y) z)/\Hid (Ow wr w.heap.size eB (.slice (some ⟨F.heap.size,0,none⟩) d.length d.length) (List.replicate d.length (0:UInt8)))/\Hid (Ow wr w.heap.size eJ (.slice sa o.length sc) o)/\Fr w wr) (λZ _=>16-rE Z)
  case atStart => exact ⟨[⟨X, z.length, Y⟩], by simp, by simp, cf.out, fun t h => by
    obtain rfl : t = 0 := by simpa using h
    exact ch.out, ch.out, dE.out, dT.out, ec.out⟩
  case round=>
   clear cf dE dT ec ch
   obtain⟨m,hS,hT,a1,a2,bx,aa,bk,bl⟩:=hrel
   obtain⟨ra,rc,cj⟩:=a1.shape'
   by_cases fB:m.length<15
   ·have fC:(m.length:Int)<15:=ω
    obtain⟨b,dc,cp,a0,c0⟩:=a1.see.cell1 (λh:Hd=>h.v) rfl (m.length-1) ω
    rw[cj]at a0
    cases a0
    have hV:IntKind.i64.wrap ((m.length:Int)-1)=((m.length-1:Nat):Int):=by rw[ax _ ω];omega
    have ef:=a2.out (m.length-1) ω
    have ck:=ad (PZ (.slice X z.length Y) _ z (aM z (m.length-1)) wr bx.out.see ef.see ω (by have:=bc.out (m.length-1);omega))
    have el:Hid (aW z (cH (aM z (m.length-1)))=aM z m.length):=by
     show _=_
     obtain⟨q,hq⟩:∃q,m.length=q+1:=⟨m.length-1,ω⟩
     rw[hq];rfl
    rw[el.out]at ck
    generalize m[m.length-1]=K at *
    have i1:(0:Int)<=((m.length-1:Nat):Int):=ω
    have i2:((m.length-1:Nat):Int)<m.length:=ω
    have hW:m.length-1<m.length:=ω
    have fD:Hid (m.length+1<=15):=fB
    clear ef
    subst cj
    generalize m.length-1=k1 at *
    go_wp2_with fail
    refine ck.out.mono ?_
    rintro e w5 ⟨nv,rfl,cl,a3⟩
    obtain⟨na,nc,rfl⟩:=cl.shape'
    have cq:=bl.trans a3
    have ab:=a1.fr a3
    have fN:=ad (λt (h:t<m.length)=>(a2.out t h).fr a3)
    have fP:=ad (bx.out.fr a3)
    have fQ:=ad (aa.out.fr a3)
    have fS:=ad (bk.out.fr a3)
    have ga:=ad (cl.rebase bl.size)
    clear a1 a2 bx aa bk cl bl ck el c0
    go_wp2_with (at_builtin;refine cW vH rfl (.tmp 57) (.tmp 66) 343 rfl Tryz.underlying343 w.heap.size rfl ab [⟨na,(aM z m.length).length,nc⟩] _ _ _ rfl rfl rfl (by simp;omega) cq.size ?_)
    intro v' w6 ac
    have ev:=ac.own
    obtain⟨va,vc,gc⟩:=ev.shape'
    have ge:Hid (∀t (h:t<(m++[(⟨na,(aM z m.length).length,nc⟩:Hd)]).length),Ow w6 w.heap.size eH (m++[(⟨na,(aM z m.length).length,nc⟩:Hd)])[t].v (aM z t)):=λt h=>by
     by_cases ht:t<m.length
     ·rw[kI ht]
      exact dx (fN.out t ht) ab ac δ
     ·obtain rfl:t=m.length:=by simp at h;omega
      rw[jZ (al _)]
      simp only[fY,sA]
      exact dx ga.out ab ac δ
    have gg:=ad (dx fP.out ab ac δ)
    have gi:=ad (dx fQ.out ab ac δ)
    have gs:=ad (dx fS.out ab ac δ)
    subst gc
    go_wp2_with fail
    go_roundw
    case rel=>exact⟨_,σ,by simpa using fD.out,ev,ge,gg,gi,gs,ac.below ab cq (al _) cq.size⟩
    case measure=>simp[rE];omega
   ·have gv:m.length=15:=ω
    have fC:¬(m.length:Int)<15:=ω
    subst cj
    generalize wr=wm at *
    have hg:w.heap.size<=F.heap.size:=O.size
    -- what stays while bytes count
    have e0:Hid (∀W,ai (λk=>k=F.heap.size) wm W->∀t (h:t<m.length),ah W eH m[t].v (aM z t)):=λW J t h=>
     ((a2.out t h).chg J fun k K e => by
       rw[e] at K
       rcases kL (a2.out t h) aa.out δ with A | A
       · rw[A] at K; cases K
       · exact A K).see
    have g1:Hid (∀W,ai (λk=>k=F.heap.size) wm W->ah W eJ (.slice sa o.length sc) o):=λW J=>
     (bk.out.chg J fun k K e => by
       rw[e] at K
       rcases kL bk.out aa.out δ with A | A
       · rw[A] at K; cases K
       · exact A K).see
    have g2:Hid (∀W,ai (λk=>k=F.heap.size) wm W->ah W vH (.slice ra m.length rc) m):=λW J=>
     (a1.chg J fun k K e => by
       rw[e] at K
       rcases kL a1 aa.out δ with A | A
       · rw[A] at K; cases K
       · exact A K).see
    have ct:=aa.out
    rw[<- BE]at ct
    have e1:2*o.length-2<=(aM z 14).length:=by have:=dv.out;rw[ca.out]at this;exact this
    have e2:=ad e1
    have g3:=ad (λq t h=>Ge z f6.out q t h)
    have ih:IntKind.i64.wrap (2*(o.length:Int))=((2*o.length:Nat):Int):=by rw[ax _ (by have:=V.out;omega)];omega
    have ij:IntKind.i64.wrap (((2*o.length:Nat):Int)-2)=((2*o.length-2:Nat):Int):=by rw[ax _ (by have:=V.out;omega)];omega
    have it:o.length<=d.length:=V.out
    clear e1 a2 bx aa bk f4
    generalize 2*o.length=t1,2*o.length-2=t0 at *
    go_wp2_with fail
    go_loopw [10,11] (λtv Z wr=>∃(q t:Nat) (U:Nat->Nat),q<=15/\Z=.int .i64 ((q:Int)-1)/\tv=N t/\t<=1200/\Hid (0<q->t<=(aM z (q-1)).length)/\Ow wr w.heap.size eB (.slice (some ⟨F.heap.size,0,none⟩) d.length d.length) (ie d.length U)/\Hid (∀s,ln s=U s+dR z q t s)/\ai (λk=>k=F.heap.size) wm wr) (λ_ Z _=>(intOf Z+1).toNat)
    case atStart=>exact⟨15,t0,λ_=>0,al _,by first | rfl | (rw[gv];rfl),by first | rfl | go_num,by have A:=e2.out;have R:=bc.out 14;omega,λ_=>e2.out,ct,λs=>by rw[iH];exact f3.out s,ai.refl _ _⟩
    case round=>
     clear ct
     obtain⟨q,t,U,hq,rfl,rfl,ht,HT,hO,HF,J⟩:=hrel
     rcases kE q with rfl | hp
     ·have a5:¬(0:Int)<=((0:Nat):Int)-1:=ω
      have HE:Hid (RB=ie d.length U):=by
       show _=_;rw[HB.out];exact BF _ _ _ λs=>by rw[HF.out s];simp[dR]
      clear HT HF
      go_wp2_with fail
      go_ret2
      exact⟨_,rfl,by rw[HE.out];exact hO,ai.below bl J bl.size (λi hi=>by rw[hi];exact hg)⟩
     ·obtain⟨r,rfl⟩:∃r,q=r+1:=⟨q-1,ω⟩
      have bm:=HT.out hp
      simp only[Nat.add_sub_cancel]at bm
      have er:((r+1:Nat):Int)-1=(r:Int):=ω
      rw[er]
      have iv:(0:Int)<=(r:Int):=ω
      have cv:r<m.length:=ω
      have i0:(r:Int)<m.length:=ω
      have i6:=ax ((r:Int)-1) ω
      obtain⟨b,dc,cp,a0,c0⟩:=(g2.out _ J).cell1 (λh:Hd=>h.v) rfl r cv
      cases a0
      have b1:=e0.out _ J r cv
      obtain⟨xa,xc,c5,i7,i8,_⟩:=b1.shape
      rw[c5]at c0 b1
      obtain⟨ha,hb⟩:=jj eH 341 Tryz.underlying341 b1 t bm
      have ji:=ad ha
      have b3:=g3.out r t bm
      have hd:Hid (t<=600):=by show _<=_;have:=bc.out r;omega
      have e5:Hid (∀s,ln s=U s+((dO (z.take (aV ((aM z r).take t)))).count s+dR z r (2*(t-aV ((aM z r).take t))) s)):=λs=>HF.out s
      have he:Hid (∀W,ai (λk=>k=F.heap.size) wm W->ah W eH (.slice xa t xc) ((aM z r).take t)):=λW h=>by
       have:=e0.out W h r cv
       rw[c5]at this
       exact(jj eH 341 Tryz.underlying341 this t bm).2
      clear c5 b1 hb HT HF er
      have e6:((aM z r).take t).length=t:=by rw[aA];omega
      generalize hf:(aM z r).take t=D at *
      have e7:=e6
      have bn:=ad e7
      have j0:t<=xc:=ω
      clear e6 e7 bm hf
      go_wp2_with fail
      generalize wr=wq at *
      go_loopw [12,86] (λnv jv wr=>∃(j:Nat) (G:Nat->Nat),j<=t/\jv=N j/\nv=N (aV (D.take j))/\Ow wr w.heap.size eB (.slice (some ⟨F.heap.size,0,none⟩) d.length d.length) (ie d.length G)/\Hid (∀s,G s=U s+(dO (z.take (aV (D.take j)))).count s)/\ai (λk=>k=F.heap.size) wm wr) (λ_ jv _=>t-(intOf jv).toNat)
      case atStart=>exact⟨0,U,ar _,rfl,rfl,hO,λs=>by simp[aV,dO],J⟩
      case round=>
       clear hO J
       obtain⟨j,G,hj,rfl,rfl,hO,HG,J⟩:=hrel
       by_cases hh:j<t
       ·have j3:(j:Int)<t:=ω
        have e8:j<D.length:=by rw[bn.out];exact hh
        obtain⟨b2,j5,j6,e9,c1,c2⟩:=tG (he.out _ J) j e8
        rw[bn.out]at e9
        cases e9
        have a6:=ad (Rg D j e8)
        have eL:=ad (Rh D (j+1) t ω)
        rw[show D.take t=D by rw[<- bn.out,dY]]at eL
        generalize D[j]=x at *
        have i1:(0:Int)<=j:=ω
        have hA:Fr wr (wr.alloc (.cells #[.int .u64 (x.w.toNat:Int),.bool x.leaf] 346)):=(Fr.refl wr).alloc _
        have hB:(wr.alloc (.cells #[.int .u64 (x.w.toNat:Int),.bool x.leaf] 346)).heap[wr.heap.size]?=some (.cells #[.int .u64 (x.w.toNat:Int),.bool x.leaf] 346 (0,0)):=aB _ _ _ rfl
        have c3:(wr.alloc (.cells #[.int .u64 (x.w.toNat:Int),.bool x.leaf] 346)).cell? ⟨wr.heap.size,1,none⟩=some (.bool x.leaf):=by rw[aK hB];rfl
        clear hB
        have c8:=hO.fr hA
        have cA:=J.trans (hA.chg (λk=>k=F.heap.size)) (λ_ _ h=>h)
        clear hO J hA
        go_upto_region 23 with fail
        generalize wr.alloc (.cells #[.int .u64 (x.w.toNat:Int),.bool x.leaf] 346)=wx at *
        by_cases b5:x.leaf=true
        ·rw[af b5]at a6
         have a5:aV (D.take j)<o.length:=by have A:=eL.out;have R:=b3.2.1;have h3:=a6.out;have h4:=ca.out;omega
         obtain⟨b4,kc,ke,hm,c4⟩:=tF (g1.out _ cA) (aV (D.take j)) a5
         cases hm
         have cB:=b8.out _ (bJ a5)
         have fe:Hid (∀s,(dO (z.take (aV (D.take j)+1))).count s=(dO (z.take (aV (D.take j)))).count s+if o[aV (D.take j)]=s then 1 else 0):=λs=>by
          have A:=f5.out _ a5
          have fh:aV (D.take j)<z.length:=by rw[ca.out];exact a5
          rw[bj fh]at A
          rw[Ml z _ fh _ (jU A),wE,List.count_singleton]
          simp
         have fk:Hid (aV (D.take (j+1))=aV (D.take j)+1):=a6.out
         generalize o[aV (D.take j)]=I at *
         generalize aV (D.take j)=M at *
         have b6:=vK d.length G
         obtain⟨d1,d2⟩:=c8.cellAt (λc=>Fk.u8 c) rfl I (by rw[b6];exact cB)
         have fl:(ie d.length G)[I]'(by rw[b6];exact cB)=UInt8.ofNat (G I):=by simp[ie]
         rw[fl]at d1
         replace d1:wx.cell? ⟨F.heap.size,I,none⟩=some (.int .u8 ((UInt8.ofNat (G I)).toNat:Int)):=d1
         have kk:=La (G I)
         have fm:=ad (c8.set (λc=>Fk.u8 c) rfl I (by rw[b6];exact cB) (UInt8.ofNat (G I+1)) (.int .u8 ((UInt8.ofNat (G I+1)).toNat:Int)) rfl)
         rw[Im]at fm
         have ho:Hid (∀s,(if s=I then G I+1 else G s)=U s+(dO (z.take (M+1))).count s):=λs=>by
          rw[fe.out s]
          by_cases e:s=I
          ·subst e;rw[af rfl,af rfl,HG.out s];omega
          ·rw[ae e,ae (iG e),HG.out s];omega
         have kl:=nH (UInt8.ofNat (G I))
         clear HG fe fl b6
         have i2:(0:Int)<=M:=ω
         have i3:(M:Int)<o.length:=ω
         have i4:(0:Int)<=I:=ω
         have i5:(I:Int)<d.length:=ω
         have kr:IntKind.i64.wrap ((M:Int)+1)=((M+1:Nat):Int):=by rw[ax _ (by have:=V.out;omega)];omega
         rw[b5]at c3
         generalize (UInt8.ofNat (G I+1)).toNat=cv1,(UInt8.ofNat (G I)).toNat=ks at *
         go_wp2_with fail
         go_roundw
         case rel=>exact⟨j+1,(λs=>if s=I then G I+1 else G s),ω,γ,by rw[fk.out];first | rfl | go_num,fm.out,by rw[fk.out];exact ho.out,cA.trans (a9 wx _ _) (λ_ _ h=>h)⟩
         case measure=>exact μ
        ·have hr:x.leaf=false:=by simpa using b5
         rw[ae b5,dq]at a6
         rw[hr]at c3
         go_wp2_with fail
         go_roundw
         case rel=>exact⟨j+1,G,ω,γ,by rw[a6.out];exact rfl,c8,by rw[a6.out];exact HG.out,cA⟩
         case measure=>exact μ
       ·obtain rfl:j=t:=ω
        have a5:¬((j:Int)<j):=ω
        have hu:D.take j=D:=by rw[<- bn.out,dY]
        rw[hu]at HG ⊢
        have A:=b3.1
        have R:=b3.2.2
        generalize aV D=M at *
        have kv:IntKind.i64.wrap ((j:Int)-M)=((j-M:Nat):Int):=by rw[ax _ ω];omega
        have kx:IntKind.i64.wrap (2*((j-M:Nat):Int))=((2*(j-M):Nat):Int):=by rw[ax _ ω];omega
        have L:Hid (∀s,ln s=G s+dR z r (2*(j-M)) s):=λs=>by rw[e5.out s,HG.out s];omega
        have H2:=ad R
        have hw:2*(j-M)<=1200:=by
         rcases kE r with e | e
         ·have:=bc.out 0;subst e;have h4:=bn.out;have h5:=hd.out;omega
         ·have:=R e;have h6:=bc.out (r-1);omega
        clear HG e5 b3 R
        generalize j-M=t3,2*(j-M)=t2 at *
        go_wp2_with fail
        go_roundw
        case rel=>exact⟨r,t2,G,ω,by first | rfl | go_num,by first | rfl | go_num,hw,H2.out,hO,L,J⟩
        case measure=>simp[intOf]
def Hk(d:List It)(s:Nat):∀r t,nB d r t s<=(r+1)*(dO d).count s:=by
 have e:∀k,(dO (d.take k)).count s<=(dO d).count s:=λk=>by
  conv=>rhs;rw[<- jC k d,D8,wE]
  omega
 intro r
 induction r with
 | zero=>intro t;have:=e (aV ((aM d 0).take t));rw[nB];omega
 | succ r h=>intro t;rw[nB];have m:=e (aV ((aM d (r+1)).take t));have o:=h (2*(t-aV ((aM d (r+1)).take t)));rw[be (r+1) 1];omega
def wZ(d:List Nat):∀l:List Nat,dO (ce d l)=l:=by
 intro l
 induction l with
 | nil=>rfl
 | cons x l e=>show dO (_::ce d l)=_;rw[rC,e];rfl
def qH(d:List Nat):(jg d).Pairwise (·<·):=by
 unfold jg;exact List.pairwise_lt_range.filter _
def Gb(d:List Nat)(s:Nat):gJ d s<=15:=by
 unfold gJ;split;·omega
 ·split;·split <;> omega
  ·have z:(aQ d).count s<=1:=(by have m:=qC (λs=>d.getD s 0) (jg d) (qH d);unfold aQ;rw[m.count_eq];exact List.nodup_iff_count.1 ((qH d).imp λ{a b} h e=>by omega) s);generalize 2*(aQ d).length-2=t;have o:=tC d (aQ d);have e:(aM (ce d (aQ d)) 14).take t=(aM (ce d (aQ d)) 14).take (min t (aM (ce d (aQ d)) 14).length):=by
    rcases Nat.le_total t (aM (ce d (aQ d)) 14).length with h | h;·rw[fI h]
    ·rw[rq h,cw h,dY]
   rw[e,yi _ o s 14 _ (Nat.min_le_right _ _)];have:=Hk (ce d (aQ d)) s 14 (min t (aM (ce d (aQ d)) 14).length);rw[wZ]at this;omega
def rO(d:List Nat):(co d).length=d.length:=vK _ _
def vq(d:List Nat):∀c∈co d,c.toNat<=15:=by
 intro c e;unfold co ie at e;obtain⟨s,_,rfl⟩:=ee.1 e;have:=Gb d s;rw[jp];omega
def KM(d:List Nat):(aQ d).Nodup:=by
 have e:=qC (λs=>d.getD s 0) (jg d) (qH d);exact e.nodup_iff.2 ((qH d).imp λh=>by omega)
def Db(d:List Nat)(s:Nat):s∈aQ d↔s<d.length/\0<d.getD s 0:=by
 have e:=qC (λs=>d.getD s 0) (jg d) (qH d);unfold aQ;rw[e.mem_iff];unfold jg;rw[lG,dN,en]
def Gd(d l:List Nat)(k:Nat):(ce d l).take k=ce d (l.take k):=by
 unfold ce;rw[List.map_take]
def H8{l:List Nat}(h:l.Nodup)(i k:Nat)(m:i<l.length):(l.take k).count l[i]=if i<k then 1 else 0:=by
 have o:=List.nodup_iff_count.1 h l[i];have d:∀x,(l.take k).count x+(l.drop k).count x=l.count x:=λx=>by rw[<- wE,jC]
 have d:=d l[i];by_cases e:i<k;·rw[af e];have:0<(l.take k).count l[i]:=List.count_pos_iff.2 (Cx.2 ⟨i,ω,rfl⟩);omega
 ·rw[ae e];have:0<(l.drop k).count l[i]:=List.count_pos_iff.2 (qy (i:=i-k) (by rw[List.getElem?_drop,show k+(i-k)=i by omega,bj m]));omega
def Tz(e d:List Nat)(h:d.Nodup)(i:Nat)(o:i<d.length):∀r t,nB (ce e d) r t d[i]=dI (ce e d) i r t:=by
 intro r
 induction r with
 | zero=>intro t;rw[nB,dI,Gd,wZ,H8 h];rfl
 | succ r m=>intro t;rw[nB,dI,Gd,wZ,H8 h,m];rfl
def yd(d:List Nat)(h:∀x∈d,x<4294967296)(s:Nat):d.getD s 0<4294967296:=by
 rw[bq]
 cases e:d[s]? with
 | none=>simp
 | some x=>exact h x (qy e)
def AY(n:Nat)(h:n<4294967296):(UInt64.ofNat n).toNat=n:=by
 rw[UInt64.toNat_ofNat'];omega
def Qx(d:List Nat)(h:∀x∈d,x<4294967296):nE (ce d (aQ d)):=by
 unfold nE ce;rw[List.pairwise_map];refine List.Pairwise.imp ?_ (CZ (λs=>d.getD s 0) (jg d) (qH d));intro a b m;show(UInt64.ofNat (d.getD a 0)).toNat<=(UInt64.ofNat (d.getD b 0)).toNat;rw[AY _ (yd d h a),AY _ (yd d h b)];unfold bK at m;rcases m with e | e;·exact Nat.le_of_lt e
 ·exact iT e.1
def Qy(d:List Nat)(h:∀x∈d,x<4294967296):∀x∈ce d (aQ d),x.w.toNat<=4294967296:=by
 intro x e;obtain⟨s,_,rfl⟩:=ee.1 e;show(UInt64.ofNat (d.getD s 0)).toNat<=_;rw[AY _ (yd d h s)];exact Nat.le_of_lt (yd d h s)
def vn(d l:List Nat):(ce d l).length=l.length:=by simp[ce]
def Gc(d:List Nat)(o:2<=(aQ d).length)(h:(aQ d).length<=32768)(i:Nat)(m:i<(aQ d).length):gJ d (aQ d)[i]=dI (ce d (aQ d)) i 14 (2*(aQ d).length-2):=by
 have e:=Ah (ce d (aQ d)) 14 (by rw[vn];exact h);rw[vn]at e;unfold gJ;rw[ae ω,ae ω,yi _ (tC d _) _ 14 _ e];exact Tz d _ (KM d) i m 14 _
def Ga(d:List Nat)(s:Nat)(m:¬s∈aQ d):gJ d s=0:=by
 unfold gJ;split;·rfl
 ·split;·rename_i z A;rw[ae];intro e;apply m;rw[e,bq,bj ω];exact bJ _
  ·have o:=tC d (aQ d);generalize 2*(aQ d).length-2=t;have e:(aM (ce d (aQ d)) 14).take t=(aM (ce d (aQ d)) 14).take (min t (aM (ce d (aQ d)) 14).length):=by
    rcases Nat.le_total t (aM (ce d (aQ d)) 14).length with h | h;·rw[fI h]
    ·rw[rq h,cw h,dY]
   rw[e,yi _ o s 14 _ (Nat.min_le_right _ _)];have:=Hk (ce d (aQ d)) s 14 (min t (aM (ce d (aQ d)) 14).length);rw[wZ,List.count_eq_zero.2 m]at this;omega
def Gp(d:List Nat)(h:∀x∈d,x<4294967296)(z:2<=(aQ d).length)(e:(aQ d).length<=32768):((List.range (aQ d).length).map λi=>2^(15-dI (ce d (aQ d)) i 14 (2*(aQ d).length-2))).sum=2^15:=by
 have m:=Ah (ce d (aQ d)) 14 (by rw[vn];exact e);have o:=Qi (ce d (aQ d)) 4294967296 14 (tC d _) (Qx d h) (Qy d h) δ;have:=Ru (ce d (aQ d)) (tC d _) 14 o (by rw[vn];omega) m;rw[vn]at this;exact this
def zU(l:List Nat)(x:Nat)(h:x∈l):x<=l.sum:=by
 induction l with
 | nil=>cases h
 | cons y l d=>
  rw[gQ];rcases gR.1 h with rfl | h;·omega
  ·have:=d h;omega
def M7(f:Nat->Nat)(n i:Nat)(m:2<=n)(o:i<n)(h:∀j,1<=f j):f i+1<=((List.range n).map f).sum:=by
 induction n with
 | zero=>omega
 | succ n z=>
  rw[jr,eD,ot];simp only[dD,ox,gQ,List.sum_nil,dq];by_cases e:i=n;·subst e;have d:f 0<=((List.range i).map f).sum:=zU _ _ (ee.2 ⟨0,dN.2 ω,rfl⟩);have:=h 0;omega
  ·have d:f i<=((List.range n).map f).sum:=zU _ _ (ee.2 ⟨i,dN.2 ω,rfl⟩);have:=h n;omega
def Ht(d:List Nat)(h:∀x∈d,x<4294967296)(m:2<=(aQ d).length)(z:(aQ d).length<=32768)(i:Nat)(A:i<(aQ d).length):1<=dI (ce d (aQ d)) i 14 (2*(aQ d).length-2):=by
 have D:=Gp d h m z;have o:=M7 (λi=>2^(15-dI (ce d (aQ d)) i 14 (2*(aQ d).length-2))) _ i m A (λj=>lh _);rw[D]at o;rcases kE (dI (ce d (aQ d)) i 14 (2*(aQ d).length-2))with e | e;·rw[e]at o;omega
 ·exact e
def Rc(d:List Nat)(h:∀x∈d,x<4294967296)(o:(aQ d).length<=32768)(s:Nat)(A:s∈aQ d):1<=gJ d s:=by
 obtain⟨i,m,rfl⟩:=Cz A;by_cases z:2<=(aQ d).length;·rw[Gc d z o i m];exact Ht d h z o i m
 ·have D:(aQ d).length=1:=ω;unfold gJ;rw[ae ω,af D,af];·exact al _
  ·have e:i=0:=ω;subst e;rw[bq,bj m];rfl
def MB(p:Nat->Bool)(g:Nat->Nat)(l:List Nat)(h:∀s∈l,p s=false->g s=0):(l.map g).sum=((l.filter p).map g).sum:=by
 induction l with
 | nil=>rfl
 | cons x l d=>
  rw[dD,gQ,d λs m=>h s (by simp[m]),mX]
  cases e:p x with
  | true=>rw[af rfl,dD,gQ]
  | false=>rw[ae σ,h x σ e,iH]
def DC(d:List Nat)(g:Nat->Nat)(h:∀s,¬s∈aQ d->g s=0):((List.range d.length).map g).sum=((aQ d).map g).sum:=by
 have m:=qC (fun s=>d.getD s 0) (jg d) (qH d);rw [MB (fun s => decide (0 < d.getD s 0)) g (List.range d.length) fun s z e => h s fun o => by
   have := (Db d s).1 o;rw[sw] at e
   exact e this.2]
 exact((m.map g).sum_nat).symm
def FY(d:List Nat)(s:Nat):(UInt8.ofNat (gJ d s)).toNat=gJ d s:=by
 have:=Gb d s;rw[jp];omega
def Bb(d:List Nat)(s:Nat):UInt8.ofNat (gJ d s)=0↔gJ d s=0:=by
 have h:=FY d s;constructor;·intro e;rw[e]at h;exact h.symm
 ·intro e;rw[e];rfl
def Rt(d:List Nat):l8 (co d)=((List.range d.length).map λs=>if gJ d s=0 then 0 else 2^(15-gJ d s)).sum:=by
 unfold l8 co ie;rw[jE];congr 1;apply iV;intro s _;show(if UInt8.ofNat (gJ d s)=0 then 0 else 2^(15-(UInt8.ofNat (gJ d s)).toNat))=_;rw[FY];by_cases e:gJ d s=0;·rw[af e,af ((Bb d s).2 e)]
 ·rw[ae e,ae λh=>e ((Bb d s).1 h)]
def Ib(p:Nat->Bool)(l:List Nat):l.countP p=(l.map λs=>if p s=true then 1 else 0).sum:=by
 induction l with
 | nil=>rfl
 | cons x l d=>rw[uw,dD,gQ,d,oq]
def FW(d:List Nat)(h:∀x∈d,x<4294967296)(z:(aQ d).length<=32768):bX (co d)=true:=by
 unfold bX;rw[wH,wH,fL,en,en,en,en];by_cases A:2<=(aQ d).length
 ·refine .inl (.inr ?_);rw[Rt,DC d _ λs m=>by rw[af (Ga d s m)]];have o:=Gp d h A z;refine Eq.trans (dp List.sum ?_) o;apply gT;·simp
  ·intro i J O;have F:i<(aQ d).length:=(by simpa using J);rw[fK,fK,jd,Gc d A z i F,ae];have:=Ht d h A z i F;omega
 ·by_cases o:(aQ d).length=1
  ·refine .inr ?_;obtain⟨u,D⟩:=List.length_eq_one_iff.1 o;have G:∀s,gJ d s=if s=u then 1 else 0:=λs=>(by unfold gJ;rw[ae ω,af o,D];rfl);have K:u∈aQ d:=(by rw[D];simp);have m:=DC d (λs=>if s=u then 1 else 0) λs m=>(by rw[ae];intro e;exact m (by rw[e];exact K));rw[D]at m;have I:((List.range d.length).map λs=>if s=u then 1 else 0).sum=1:=(by rw[m];simp);constructor
   ·unfold jH co ie;rw[List.countP_map,Ib];refine Eq.trans (dp List.sum (iV λs _=>?_)) I;show(if(UInt8.ofNat (gJ d s) != 0)=true then 1 else 0)=_;rw[G s];by_cases e:s=u;·rw[af e];rfl
    ·rw[ae e];rfl
   ·unfold aE co ie;rw[List.countP_map,Ib];refine Eq.trans (dp List.sum (iV λs _=>?_)) I;show(if((UInt8.ofNat (gJ d s)).toNat == 1)=true then 1 else 0)=_;rw[G s];by_cases e:s=u;·rw[af e];rfl
    ·rw[ae e];rfl
  ·refine .inl (.inl ?_);have L:aQ d=[]:=List.length_eq_zero_iff.1 ω;unfold jH co ie;rw[List.countP_eq_zero];intro c M;obtain⟨s,_,rfl⟩:=ee.1 M;rw[Ga d s (by rw[L];simp)];decide
def Rb(d:List Nat)(h:∀x∈d,x<4294967296)(o:(aQ d).length<=32768)(s:Nat)(m:s<d.length)(z:0<d.getD s 0):(co d)[s]'(by rw[rO];exact m)≠0:=by
 have A:=Rc d h o s ((Db d s).2 ⟨m,z⟩);unfold co ie;rw[fK,jd];intro e;have:=(Bb d s).1 e;omega
def KN(d:List Nat):(aQ d).length<=d.length:=by
 have e:=qC (λs=>d.getD s 0) (jg d) (qH d);unfold aQ;rw[e.length_eq];unfold jg;have:=uq (λs=>decide (0<d.getD s 0)) (List.range d.length);simpa using this
def Y7(w:World)(base:Nat)(d:List J7):Prop:=∀m∈d,Ow w base eJ m.hd.v m.it.syms
def Yc(d:List Nat)(k:Nat):List Nat:=(mz d k).foldl (pM λs=>d.getD s 0) []
def bO(e:Nat)(p:Bool)(h d q c:Nat)(b:Z0):Z0:=
 au (cz e p h d q c b.length)++dJ b d q c (aG d c b.length)++au (cz e p h d q c b.length)
def JP(g m o d q c n:Nat)(p:Bool){V:Value}(v:Value)(l:Z0)(w:World)(K:w.heap[g]?=some (of m p o d q c n V))(z:ah w eB v l)(L:cP w)(X:m<=32768)(Y:o<256)(Z:d<256)(h4:q<256)(h5:c<=4096)(h6:n<=1000000)(hl:l.length<=20000000):Calls Tryz.prog 21 #[.pointer (some ⟨g,0,none⟩),v] w λe w'=>∃v,e=.returned v/\Ow w' w.heap.size eB v (au (cz m p o d q c n)++l++au (cz m p o d q c n))/\Fr w w':=by
 have M:=ad (λW (h:Fr w W)=>XA g m o d q c n p W (h.heap K) (L.fr h) X Y Z h4 h5 h6);have A:=gH (cz m p o d q c n);rw[qW]at A;have Hl:=ad A;have HA:=ad (λW O Q (ha:ah W eB O (au (cz m p o d q c n))) (hb:ah W eB v l) (hc:ah W eB Q (au (cz m p o d q c n)))=>VP O v Q _ l _ W ha hb hc ω);clear A;obtain⟨a0,bc,hv,bd,bf,a2⟩:=z.shape;have HS:=ad (λW (h:Fr w W)=>z.fr h);subst hv;clear z a2 L K;generalize au (cz m p o d q c n)=H at *;go_in;go_wp2_with fail;refine(M.out _ (Fr.refl w)).mono ?_;rintro e w1 ⟨v1,rfl,D,F⟩;obtain⟨p1,z1,rfl⟩:=D.shape';go_wp2_with fail;refine(M.out _ F).mono ?_;rintro e R ⟨v2,rfl,G,I⟩;have J:=F.trans I;have HH:=ad (HA.out R _ v2 (D.fr I).see (HS.out R J) G.see);obtain⟨p2,z2,rfl⟩:=G.shape';clear D G F I;go_wp2_with fail;refine HH.out.mono ?_;rintro e w3 ⟨v3,rfl,U,a6⟩;have HR:=ad (U.rebase J.size);clear U;go_wp2;go_ret;exact⟨_,rfl,HR.out,J.trans a6⟩
def vr(d q c n:Nat)(m:q<=4*d)(o:4<=c)(e:d<=8)(h:c<=100)(z:n<=1000000):aG d c n*((d+q)*(c+4))<=16777216:=by
 have A:aG d c n*(d*c)<=n+d*c-1:=zg _ _;have D:(d+q)*(c+4)<=(5*d)*(2*c):=bH ω ω;have F:(5*d)*(2*c)=10*(d*c):=by rw[Nat.mul_mul_mul_comm]
 have G:d*c<=8*100:=bH e h;have I:aG d c n*((d+q)*(c+4))<=aG d c n*(10*(d*c)):=oj _ ω;have J:aG d c n*(10*(d*c))=10*(aG d c n*(d*c)):=by rw[rp]
 omega
def hX(h:Z0):Nat:=(h.getD 5 0).toNat
def iA(h:Z0):Nat:=(h.getD 6 0).toNat
def hD(h:Z0):Nat:=(h.getD 7 0).toNat
def hQ(h:Z0):Nat:=(h.getD 8 0).toNat
def hC(h:Z0):Nat:=cU ((h.drop 9).take 2)
def jz(h:Z0):Nat:=cU ((h.drop 11).take 2)
def hN(h:Z0):Nat:=cU ((h.drop 13).take 4)
def hP(h:Z0):Bool:=decide (hX h=1)
def dt(h:Z0):dV:=⟨(jz h:Int),hP h,(iA h:Int),(hD h:Int),(hQ h:Int),(hC h:Int)⟩
def AG(h:Z0)(d:ew (dt h)=true):16<=jz h/\jz h<=32768/\1<=iA h/\iA h<=64/\1<=hD h/\hD h+hQ h<=255/\1<=hC h/\hC h<=4096:=by
 have e:=(kM _).1 d;obtain⟨m,o,k3,z,A,D,F,G,I,J⟩:=e;simp only[dt]at m o k3 z A D F G I J;refine⟨?_,?_,?_,?_,?_,?_,?_,?_⟩ <;> omega
def iQ(b:Z0):Z0:=(b.drop 21).take (b.length-42)
def gG(b:Z0):Nat × Z0 × List Nat:=gj (hD (an b)) (hQ (an b)) (hC (an b)) (hN (an b)) (iQ b)
def bi(b:Z0):Nat × Z0 × Nat:=
 if b.length<42 then(1,[],0)else if gm b=false then(5,[],0)else if 1<hX (an b)then(2,[],0)else if ew (dt (an b))=false then(9,[],0)
 else if(gG b).1=0 then(0,(gG b).2.1,(gG b).2.2.length+(if b.take 21=b.drop (b.length-21)then 0 else 1))else((gG b).1,[],0)
def I8(b:Z0)(h:b.length<42):bi b=(1,[],0):=by unfold bi;rw[af h]
def I7(b:Z0)(h:¬b.length<42)(d:gm b=false):bi b=(5,[],0):=by unfold bi;rw[ae h,af d]
def IB(b:Z0)(h:¬b.length<42)(d:gm b=true)(e:1<hX (an b)):bi b=(2,[],0):=by unfold bi;rw[ae h,ae (by rw[d];simp),af e]
def IA(b:Z0)(h:¬b.length<42)(d:gm b=true)(e:¬1<hX (an b))(m:ew (dt (an b))=false):bi b=(9,[],0):=by unfold bi;rw[ae h,ae (by rw[d];simp),ae e,af m]
def I9(b:Z0)(h:¬b.length<42)(d:gm b=true)(e:¬1<hX (an b))(m:ew (dt (an b))=true)(o:(gG b).1≠0):bi b=((gG b).1,[],0):=by unfold bi;rw[ae h,ae (by rw[d];simp),ae e,ae (by rw[m];simp),ae o]
def yE(b:Z0)(h:¬b.length<42)(d:gm b=true)(e:¬1<hX (an b))(m:ew (dt (an b))=true)(o:(gG b).1=0):bi b=(0,(gG b).2.1,(gG b).2.2.length+(if b.take 21=b.drop (b.length-21)then 0 else 1)):=by unfold bi;rw[ae h,ae (by rw[d];simp),ae e,ae (by rw[m];simp),af o]
def Sl(b:Z0)(h:¬b.length<42):(an b).length=21:=by
 unfold an;split;·rw[aA];omega
 ·rw[aN];omega
def vy(b:Z0):(iQ b).length=b.length-42:=by
 unfold iQ;rw[aA,aN];omega
def DV(k m c:Nat)(l:Z0)(a:Nat)(h:a+(k+m)*(c+4)<=l.length)(d:(fE k m c l a).1=0):(fE k m c l a).2.flatten.length=k*c:=by
 unfold fE at d ⊢;simp only at d ⊢;by_cases e:(bh (bD l c a (k+m))).length<k;·rw[af e]at d;cases d
 ·rw[ae e]at d ⊢;by_cases o:pL (kO k m c ((bh (bD l c a (k+m))).take k) (fo ((bh (bD l c a (k+m))).take k) (dH l c a (k+m)))) (dH l c a (k+m)) (bD l c a (k+m))=true;·rw[af o];have z:(fo ((bh (bD l c a (k+m))).take k) (dH l c a (k+m))).length=k:=(by rw[vR,aA];omega);have A:∀p∈fo ((bh (bD l c a (k+m))).take k) (dH l c a (k+m)),p.length=c:=vS (bD l c a (k+m)) (dH l c a (k+m)) c _ (λr D=>fZ D) (EZ l c a (k+m) h) (by rw[tJ,uV]);have F:=AT k m c ((bh (bD l c a (k+m))).take k) _ z A;rw[Bp c _ (λp G=>F p (fZ G)),aA,AS,fI ω]
  ·rw[ae o]at d;cases d
theorem Aw(k m c:Nat)(l:Z0):∀(f s:Nat) (d:Z0) (e:List Nat),(s+f)*((k+m)*(c+4))<=l.length->(fU k m c l f s d e).1=0->(fU k m c l f s d e).2.1.length=d.length+f*(k*c)
 | 0,_,d,e=>λ_ _=>by simp[fU]
 | f+1,s,d,e=>λz h=>by
  have A:s*((k+m)*(c+4))+(k+m)*(c+4)<=l.length:=by
   have:=bQ ((k+m)*(c+4)) (show s+1<=s+(f+1) by omega)
   rw[be s 1,dC]at this
   omega
  unfold fU at h ⊢
  by_cases o:(fE k m c l (s*((k+m)*(c+4)))).1=0
  ·simp only[o,lF]at h ⊢
   rw[Aw k m c l f (s+1) _ _ (by rw[show s+1+f=s+(f+1) by omega];exact z) h,am,DV k m c l _ A o,be]
   omega
  ·simp only[o,if_false]at h
def On(k m c:Nat)(l:Z0)(f s:Nat)(d:Z0)(e:List Nat)(h:(fE k m c l (s*((k+m)*(c+4)))).1=0):fU k m c l (f+1) s d e=fU k m c l f (s+1) (d++(fE k m c l (s*((k+m)*(c+4)))).2.flatten) (e++kX l c (s*((k+m)*(c+4))) (k+m) (s*(k+m))):=by
 rw[fU];simp only[h,lF]
def Om(k m c:Nat)(l:Z0)(f s:Nat)(d:Z0)(e:List Nat)(h:(fE k m c l (s*((k+m)*(c+4)))).1≠0):fU k m c l (f+1) s d e=((fE k m c l (s*((k+m)*(c+4)))).1,[],[]):=by
 rw[fU];simp only[h,if_false]
def Av(k m c n:Nat)(l:Z0)(h:8388608<n):gj k m c n l=(13,[],[]):=by unfold gj;rw[af h]
def As(k m c n:Nat)(l:Z0)(h:¬8388608<n)(d:16777216<aG k c n*((k+m)*(c+4))):gj k m c n l=(6,[],[]):=by unfold gj;rw[ae h,af d]
def Aq(k m c n:Nat)(l:Z0)(h:¬8388608<n)(d:¬16777216<aG k c n*((k+m)*(c+4)))(e:l.length<aG k c n*((k+m)*(c+4))):gj k m c n l=(1,[],[]):=by unfold gj;rw[ae h,ae d,af e]
def Ar(k m c n:Nat)(l:Z0)(h:¬8388608<n)(d:¬16777216<aG k c n*((k+m)*(c+4)))(e:aG k c n*((k+m)*(c+4))<l.length):gj k m c n l=(2,[],[]):=by unfold gj;rw[ae h,ae d,ae ω,af e]
def Au(k m c n:Nat)(l:Z0)(h:¬8388608<n)(d:¬16777216<aG k c n*((k+m)*(c+4)))(e:l.length=aG k c n*((k+m)*(c+4))):gj k m c n l = (let r := fU k m c l (aG k c n) 0 [] []
    if r.1 = 0 then (if (r.2.1.drop n).all (· == 0) then (0, r.2.1.take n, r.2.2) else (2, [], [])) else (r.1, [], [])) := by unfold gj; rw[ae h, ae d, ae ω, ae ω]
def pO(o:dV):Int:=if ew o then 0 else 9
def Sj(v:Value)(h:Z0)(w:World)(X:ah w eB v h)(F:h.length=21):Calls Tryz.prog 54 #[v] w λe w'=>Fr w w'/\((1<hX h/\e=.returned (.tuple #[.pointer none,.int .i64 2]))\/(hX h<=1/\∃g,e=.returned (.tuple #[.pointer (some ⟨g,0,none⟩),.int .i64 (pO (dt h))])/\w.heap.size<=g/\w'.heap[g]?=some (of (jz h) (hP h) (iA h) (hD h) (hQ h) (hC h) (hN h) (.int .u8 (hX h:Int))))):=by
 obtain⟨a0,cR,rfl,eL,fb,_⟩:=X.shape;obtain⟨fa,fc,Y,Z⟩:=lK eB 30 Tryz.underlying30 X 5 ω;rw[F,show 21-5=16 from rfl]at Y Z;rw[F];have fe:∀W,(Instr.slice 30 (.slice a0 21 cR) (some (.int .i64 5)) none none).run Tryz.prog W=.ok (.slice fa 16 fc) W:=Y;clear Y;have dc:(h.drop 5).length=16:=by rw[aN,F]
 have bu:=ad (qm _ (h.drop 5) w Z ω);have g0:(h.drop 5).getD 0 0=h.getD 5 0:=by rw[cg _ _ _ ω,cg _ _ _ ω];simp
 have g1:(h.drop 5).getD 1 0=h.getD 6 0:=by rw[cg _ _ _ ω,cg _ _ _ ω];simp
 have g2:(h.drop 5).getD 2 0=h.getD 7 0:=by rw[cg _ _ _ ω,cg _ _ _ ω];simp
 have g3:(h.drop 5).getD 3 0=h.getD 8 0:=by rw[cg _ _ _ ω,cg _ _ _ ω];simp
 have q1:((h.drop 5).drop 4).take 2=(h.drop 9).take 2:=by rw[lk]
 have q2:((h.drop 5).drop 6).take 2=(h.drop 11).take 2:=by rw[lk]
 have q3:((h.drop 5).drop 8).take 4=(h.drop 13).take 4:=by rw[lk]
 have aa:=ad (λB W (d:aD W 224 B w.heap.size (h.drop 5) 0 0) (m:w.heap.size<=W.heap.size)=>yZ B w.heap.size 0 (h.drop 5) W d ω ω m);have ab:=ad (λB W (d:aD W 224 B w.heap.size (h.drop 5) 1 0) (m:w.heap.size<=W.heap.size)=>yZ B w.heap.size 1 (h.drop 5) W d ω ω m);have ac:=ad (λB W (d:aD W 224 B w.heap.size (h.drop 5) 2 0) (m:w.heap.size<=W.heap.size)=>yZ B w.heap.size 2 (h.drop 5) W d ω ω m);have aj:=ad (λB W (d:aD W 224 B w.heap.size (h.drop 5) 3 0) (m:w.heap.size<=W.heap.size)=>yZ B w.heap.size 3 (h.drop 5) W d ω ω m);have ak:=ad (λB W (d:aD W 224 B w.heap.size (h.drop 5) 4 0) (m:w.heap.size<=W.heap.size)=>yY B w.heap.size 4 2 (h.drop 5) W d ω ω ω ω m);have ap:=ad (λB W (d:aD W 224 B w.heap.size (h.drop 5) 6 0) (m:w.heap.size<=W.heap.size)=>yY B w.heap.size 6 2 (h.drop 5) W d ω ω ω ω m);have av:=ad (λB W (d:aD W 224 B w.heap.size (h.drop 5) 8 0) (m:w.heap.size<=W.heap.size)=>yY B w.heap.size 8 4 (h.drop 5) W d ω ω ω ω m);rw[g0]at aa;rw[g1]at ab;rw[g2]at ac;rw[g3]at aj;rw[q1]at ak;rw[q2]at ap;rw[q3]at av;have HO:=ad (λW=>show Calls Tryz.prog 18 #[.int .i64 3,fq (dt h)] W λe w'=>e=.returned (.int .i64 (pO (dt h)))/\Fr W w' from Cl (dt h) W);have b9:Hid (fq (dt h)=.agg #[N (cU ((h.drop 11).take 2)),.bool (decide ((h.getD 5 0).toNat=1)),N (h.getD 6 0).toNat,N (h.getD 7 0).toNat,N (h.getD 8 0).toNat,N (cU ((h.drop 9).take 2))]):=rfl;have di:Hid (∀xv,of (jz h) (hP h) (iA h) (hD h) (hQ h) (hC h) (hN h) xv=of (cU ((h.drop 11).take 2)) (decide ((h.getD 5 0).toNat=1)) (h.getD 6 0).toNat (h.getD 7 0).toNat (h.getD 8 0).toNat (cU ((h.drop 9).take 2)) (cU ((h.drop 13).take 4)) xv):=λ_=>rfl;have a2:Hid (hX h=(h.getD 5 0).toNat):=rfl;rw[b9.out]at HO;have b1:=nH (h.getD 5 0);have b2:=nH (h.getD 6 0);have b3:=nH (h.getD 7 0);have b4:=nH (h.getD 8 0);have c1:cU ((h.drop 9).take 2)<256^2:=by have:=rQ ((h.drop 9).take 2);rw[aA,aN,F]at this;exact this
 have c2:cU ((h.drop 11).take 2)<256^2:=by have:=rQ ((h.drop 11).take 2);rw[aA,aN,F]at this;exact this
 have c3:cU ((h.drop 13).take 4)<256^4:=by have:=rQ ((h.drop 13).take 4);rw[aA,aN,F]at this;exact this
 rw[show(256:Nat)^2=65536 from by decide]at c1 c2;rw[show(256:Nat)^4=4294967296 from by decide]at c3;clear g0 g1 g2 g3 q1 q2 q3 X Z dc F b9;generalize h.drop 5=l5,(h.getD 8 0).toNat=xq,(h.getD 7 0).toNat=xd,(h.getD 6 0).toNat=xb,(h.getD 5 0).toNat=x,cU ((h.drop 13).take 4)=fN,cU ((h.drop 11).take 2)=fS,cU ((h.drop 9).take 2)=fC,pO (dt h)=OE at *;have w1:IntKind.i64.wrap (xb:Int)=(xb:Int):=kf _ ω;have w2:IntKind.i64.wrap (xd:Int)=(xd:Int):=kf _ ω;have w3:IntKind.i64.wrap (xq:Int)=(xq:Int):=kf _ ω;have w4:IntKind.i64.wrap (fC:Int)=(fC:Int):=kf _ ω;have w5:IntKind.i64.wrap (fS:Int)=(fS:Int):=kf _ ω;have w6:IntKind.i64.wrap (fN:Int)=(fN:Int):=kf _ ω;have f2:((x:Int) == 1)=decide (x=1):=by rw[show((x:Int) == 1)=decide ((x:Int)=1)from rfl];exact decide_eq_decide.2 ⟨λh=>by omega,λh=>by omega⟩
 generalize decide (x=1)=p at *;go_in;go_wp2_with fail;apply bu.z;rintro e W1 ⟨B,rfl,bB,L,f3⟩;have bL:=ad (aa.out B W1 bB L.size);go_wp2_with fail;apply bL.z;rintro e z ⟨rfl,a3,bR⟩;have a4:Fr w z:=ai.below L bR L.size (λi e=>by have e:i=B:=e;omega);have f4:B<z.heap.size:=by obtain⟨⟨v,h1,_⟩,_⟩:=a3;exact(aR.1 h1).1
 go_wp2_with fail;have a5:Fr z (z.alloc (.cells #[.int .i64 0,.bool p,.int .i64 0,.int .i64 0,.int .i64 0,.int .i64 0,.int .i64 0,.int .u8 (x:Int)] 50)):=(Fr.refl z).alloc _;have bT:=aB z (.cells #[.int .i64 0,.bool p,.int .i64 0,.int .i64 0,.int .i64 0,.int .i64 0,.int .i64 0,.int .u8 (x:Int)] 50) z.heap.size rfl;generalize z.alloc (.cells #[.int .i64 0,.bool p,.int .i64 0,.int .i64 0,.int .i64 0,.int .i64 0,.int .i64 0,.int .u8 (x:Int)] 50)=W3 at *;have dE:w.heap.size<=z.heap.size:=a4.size;generalize z.heap.size=g at *;have M:=a4.trans a5;have ca:=a3.fr a5;have cb:=ad (ab.out B W3 ca M.size);clear bL bu bB a3 L a4 bR a5 aa ab;apply cb.z;rintro e W4 ⟨rfl,cf,a6⟩;have O:Fr w W4:=ai.below M a6 M.size (λi e=>by have e:i=B:=e;omega);have ch:=a6.heap bT ω;have cj:=ad (ac.out B W4 cf O.size);clear cb ac ca M a6 bT;go_wp2_with fail;apply cj.z;rintro e W5 ⟨rfl,cl,a7⟩;have Q:Fr w W5:=ai.below O a7 O.size (λi e=>by have e:i=B:=e;omega);have cm:=a7.heap ch ω;have cn:=ad (aj.out B W5 cl Q.size);clear cj aj cf O a7 ch;go_wp2_with fail;apply cn.z;rintro e G ⟨rfl,cp,aC⟩;have ba:Fr w G:=ai.below Q aC Q.size (λi e=>by have e:i=B:=e;omega);have A:=aC.heap cm ω;clear cn cl Q aC cm;have d2:=ag A 2 rfl;have d3:=ag A 3 rfl;have d4:=ag A 4 rfl;have z2:=a8 A 2;have z3:=a8 A 3;have z4:=a8 A 4;go_wp2_with fail;have cq:=aJ (aJ (aJ A 2 (.int .i64 (xb:Int))) 3 (.int .i64 (xd:Int))) 4 (.int .i64 (xq:Int));have cs:(((G.setCell ⟨g,2,none⟩ (.int .i64 (xb:Int))).setCell ⟨g,3,none⟩ (.int .i64 (xd:Int))).setCell ⟨g,4,none⟩ (.int .i64 (xq:Int))).heap[g]?=some (.cells #[.int .i64 0,.bool p,N xb,N xd,N xq,.int .i64 0,.int .i64 0,.int .u8 (x:Int)] 50 (0,0)):=by simpa using cq
 have bb:ai (λk=>k=g) G (((G.setCell ⟨g,2,none⟩ (.int .i64 (xb:Int))).setCell ⟨g,3,none⟩ (.int .i64 (xd:Int))).setCell ⟨g,4,none⟩ (.int .i64 (xq:Int))):=
  ((a9 G ⟨g,2,none⟩ _).trans (a9 _ ⟨g,3,none⟩ _) (λ_ _ e=>e)).trans (a9 _ ⟨g,4,none⟩ _) (λ_ _ e=>e)
 have K:B≠g:=ω
 have ct:=cp.box A δ K bb;have R:Fr w (((G.setCell ⟨g,2,none⟩ (.int .i64 (xb:Int))).setCell ⟨g,3,none⟩ (.int .i64 (xd:Int))).setCell ⟨g,4,none⟩ (.int .i64 (xq:Int))):=ai.below ba bb ba.size (λi e=>by have e:i=g:=e;omega);clear cq bb cp ba A d2 d3 d4 z2 z3 z4;generalize ((G.setCell ⟨g,2,none⟩ (.int .i64 (xb:Int))).setCell ⟨g,3,none⟩ (.int .i64 (xd:Int))).setCell ⟨g,4,none⟩ (.int .i64 (xq:Int))=W7 at *;have cu:=ad (ak.out B W7 ct R.size);apply cu.z;rintro e W8 ⟨rfl,c0,bc⟩;have U:Fr w W8:=ai.below R bc R.size (λi e=>by have e:i=B:=e;omega);have c4:=bc.heap cs (λe=>K e.symm);have c5:=ad (ap.out B W8 c0 U.size);clear cu ak ct R bc cs;go_wp2_with fail;apply c5.z;rintro e I ⟨rfl,c6,bd⟩;have bf:Fr w I:=ai.below U bd U.size (λi e=>by have e:i=B:=e;omega);have J:=bd.heap c4 (λe=>K e.symm);clear c5 ap c0 U bd c4;have d5:=ag J 5 rfl;have d0:=ag J 0 rfl;have z5:=a8 J 5;have z0:=a8 J 0;go_wp2_with fail;have c7:=aJ (aJ J 5 (.int .i64 (fC:Int))) 0 (.int .i64 (fS:Int));have c8:((I.setCell ⟨g,5,none⟩ (.int .i64 (fC:Int))).setCell ⟨g,0,none⟩ (.int .i64 (fS:Int))).heap[g]?=some (.cells #[N fS,.bool p,N xb,N xd,N xq,N fC,.int .i64 0,.int .u8 (x:Int)] 50 (0,0)):=by simpa using c7
 have bk:ai (λk=>k=g) I ((I.setCell ⟨g,5,none⟩ (.int .i64 (fC:Int))).setCell ⟨g,0,none⟩ (.int .i64 (fS:Int))):=
  (a9 I ⟨g,5,none⟩ _).trans (a9 _ ⟨g,0,none⟩ _) (λ_ _ e=>e)
 have cA:=c6.box J δ K bk;have V:Fr w ((I.setCell ⟨g,5,none⟩ (.int .i64 (fC:Int))).setCell ⟨g,0,none⟩ (.int .i64 (fS:Int))):=ai.below bf bk bf.size (λi e=>by have e:i=g:=e;omega);clear c7 bk c6 bf J d0 d5 z0 z5;generalize (I.setCell ⟨g,5,none⟩ (.int .i64 (fC:Int))).setCell ⟨g,0,none⟩ (.int .i64 (fS:Int))=Wa at *;have cB:=ad (av.out B Wa cA V.size);apply cB.z;rintro e o ⟨rfl,e4,bl⟩;have cE:Fr w o:=ai.below V bl V.size (λi e=>by have e:i=B:=e;omega);have bm:=bl.heap c8 (λe=>K e.symm);clear cB av cA V bl c8 e4;have e6:=ag bm 6 rfl;have z6:=a8 bm 6;have cF:=aJ bm 6 (.int .i64 (fN:Int));have D:(o.setCell ⟨g,6,none⟩ (.int .i64 (fN:Int))).heap[g]?=some (.cells #[N fS,.bool p,N xb,N xd,N xq,N fC,N fN,.int .u8 (x:Int)] 50 (0,0)):=by simpa using cF
 have cG:Fr w (o.setCell ⟨g,6,none⟩ (.int .i64 (fN:Int))):=ai.below cE (a9 o ⟨g,6,none⟩ _) cE.size (λi e=>by have e:i=g:=e;omega);clear cF;have u0:(o.setCell ⟨g,6,none⟩ (.int .i64 (fN:Int))).cell? ⟨g,0,none⟩=some (N fS):=by rw[aK D];rfl
 have u1:(o.setCell ⟨g,6,none⟩ (.int .i64 (fN:Int))).cell? ⟨g,1,none⟩=some (.bool p):=by rw[aK D];rfl
 have u2:(o.setCell ⟨g,6,none⟩ (.int .i64 (fN:Int))).cell? ⟨g,2,none⟩=some (N xb):=by rw[aK D];rfl
 have u3:(o.setCell ⟨g,6,none⟩ (.int .i64 (fN:Int))).cell? ⟨g,3,none⟩=some (N xd):=by rw[aK D];rfl
 have u4:(o.setCell ⟨g,6,none⟩ (.int .i64 (fN:Int))).cell? ⟨g,4,none⟩=some (N xq):=by rw[aK D];rfl
 have u5:(o.setCell ⟨g,6,none⟩ (.int .i64 (fN:Int))).cell? ⟨g,5,none⟩=some (N fC):=by rw[aK D];rfl
 have u7:(o.setCell ⟨g,6,none⟩ (.int .i64 (fN:Int))).cell? ⟨g,7,none⟩=some (.int .u8 (x:Int)):=by rw[aK D];rfl
 by_cases hx:1<x;·have i1:(1:Int)<x:=ω;have bs:=ad (show 1<hX h by rw[a2.out];exact hx);clear hx HO;go_wp2;go_ret2;exact⟨cG,.inl ⟨bs.out,rfl⟩⟩
 ·have i1:¬(1:Int)<x:=ω;have bs:=ad (show hX h<=1 by rw[a2.out];omega);have e7:=ad D;clear hx D;go_wp2_with fail;refine(HO.out _).mono ?_;rintro e Wd ⟨rfl,cL⟩;have e8:=cL.heap e7.out;have e9:=cG.trans cL;go_wp2;go_ret2;refine⟨e9,.inr ⟨bs.out,g,rfl,dE,?_⟩⟩;rw[di.out,a2.out];exact e8
